/- Which nodes are arrays, how great and how deep they are, and their kids, are as the document says: for all nodes. -/
import Derived.Test.YtgbmbcippldhnaaSArrayTellsx17
import Derived.KernelRfl
namespace Go.Proofs.Ytgbmbcippldhnaa.Pure
open Go.RowKit Go.Proofs.Ytgbmbcippldhnaa.HArrayTells Go.Proofs.YtgbmbcippldhnaaW.PrintWords Go.Proofs.YtgbmbcippldhnaaW.PrintLast Go.Proofs.YtgbmbcippldhnaaW.PrintMore
set_option linter.unusedVariables false
set_option linter.unusedSimpArgs false
theorem w64 {n : Int} (h1 : -9223372036854775808 ≤ n) (h2 : n ≤ 9223372036854775807) : wrap64 n = n := by unfold wrap64; omega
theorem rd_at (b : List Int) (m : Nat) (h : m < b.length) : rd b (m : Int) = b[m] := by
  unfold rd
  rw [List.getD_eq_getElem?_getD, Int.toNat_natCast, List.getElem?_eq_getElem h]; rfl
theorem rdT_at (b : List S32) (m : Nat) (h : m < b.length) : rd_T32 b (m : Int) = b[m] := by
  unfold rd_T32
  rw [List.getD_eq_getElem?_getD, Int.toNat_natCast, List.getElem?_eq_getElem h]; rfl
def Ev {α : Type} (g : Nat → Option α) (v : α) : Prop := ∃ k0, ∀ k, k0 ≤ k → g k = some v
theorem Ev.const {α : Type} (v : α) : Ev (fun _ => some v) v := ⟨0, fun _ _ => rfl⟩
theorem Ev.bind {α β : Type} {g : Nat → Option α} {F : Nat → α → Option β} {u : α} {v : β} (h : Ev g u) (h2 : Ev (fun k => F k u) v) : Ev (fun k => (g k).bind (F k)) v := by
  obtain ⟨a, ha⟩ := h
  obtain ⟨b, hb⟩ := h2
  exact ⟨a + b, fun k hk => by show (g k).bind (F k) = some v; rw [ha k (by omega), Option.bind_some]; exact hb k (by omega)⟩
theorem Ev.succ {α : Type} {g : Nat → Option α} {v : α} (h : Ev (fun k => g (k + 1)) v) : Ev g v := by
  obtain ⟨a, ha⟩ := h
  refine ⟨a + 1, fun k hk => ?_⟩
  obtain ⟨j, rfl⟩ : ∃ j, k = j + 1 := ⟨k - 1, by omega⟩
  exact ha j (by omega)
theorem Ev.uniq {α : Type} {g : Nat → Option α} {u v : α} (h : Ev g u) (h2 : Ev g v) : u = v := by
  obtain ⟨a, ha⟩ := h
  obtain ⟨b, hb⟩ := h2
  exact Option.some.inj ((ha (a + b) (by omega)).symm.trans (hb (a + b) (by omega)))
theorem Ev.get {α : Type} {g : Nat → Option α} {v : α} (h : Ev g v) : ∃ k, g k = some v := by
  obtain ⟨a, ha⟩ := h
  exact ⟨a, ha a (Nat.le_refl _)⟩
theorem ix {i n : Nat} (h : i < n) (hn : n ≤ 1099511627776) : wrap64 ((i : Int) + 1) = ((i + 1 : Nat) : Int) := by rw [w64 (by omega) (by omega)]; omega
theorem count1_some (a : Int) : ∃ t, shape_Count_1.f a = some t ∧ (t = false → 0 ≤ a ∧ a ≤ 1048576) := by
  unfold shape_Count_1.f
  by_cases h : a < 0
  · exact ⟨true, if_pos h, by simp⟩
  · refine ⟨decide (a > 1048576), if_neg h, fun e => ?_⟩
    have := of_decide_eq_false e
    omega
theorem index1_ev (l : List Int) (hl : l.length ≤ 1099511627776) : ∀ d i, i ≤ l.length → l.length - i = d → ∃ v, Ev (fun k => slices_IndexFunc_int_int.l0 k l (l.length : Int) (i : Int)) v := by
  intro d
  induction d with
  | zero =>
    intro i h1 h2
    refine ⟨-1, Ev.succ ?_⟩
    simp only [slices_IndexFunc_int_int.l0, if_neg (show ¬ ((i : Int) < (l.length : Int)) by omega)]
    exact Ev.const _
  | succ d ih =>
    intro i h1 h2
    have hi : i < l.length := by omega
    obtain ⟨t, ht, _⟩ := count1_some (rd l (i : Int))
    obtain ⟨v, hv⟩ := ih (i + 1) (by omega) (by omega)
    cases t with
    | true =>
      refine ⟨(i : Int), Ev.succ ?_⟩
      simp only [slices_IndexFunc_int_int.l0, if_pos (show ((i : Int) < (l.length : Int)) by omega), if_pos (show (0 : Int) ≤ (i : Int) by omega), ht]
      exact Ev.bind (Ev.const _) (Ev.const _)
    | false =>
      refine ⟨v, Ev.succ ?_⟩
      simp only [slices_IndexFunc_int_int.l0, if_pos (show ((i : Int) < (l.length : Int)) by omega), if_pos (show (0 : Int) ≤ (i : Int) by omega), ht, ix hi hl]
      exact Ev.bind (Ev.const _) hv
theorem index_ev (l : List Int) (a : Int) (hl : l.length ≤ 1099511627776) : ∀ d i, i ≤ l.length → l.length - i = d → ∃ v, Ev (fun k => slices_Index_int_int.l0 k l a (l.length : Int) (i : Int)) v := by
  intro d
  induction d with
  | zero =>
    intro i h1 h2
    refine ⟨-1, Ev.succ ?_⟩
    simp only [slices_Index_int_int.l0, if_neg (show ¬ ((i : Int) < (l.length : Int)) by omega)]
    exact Ev.const _
  | succ d ih =>
    intro i h1 h2
    have hi : i < l.length := by omega
    obtain ⟨v, hv⟩ := ih (i + 1) (by omega) (by omega)
    by_cases e : a = rd l (i : Int)
    · refine ⟨(i : Int), Ev.succ ?_⟩
      simp only [slices_Index_int_int.l0, if_pos (show ((i : Int) < (l.length : Int)) by omega), if_pos (show (0 : Int) ≤ (i : Int) by omega), if_pos e]
      exact Ev.const _
    · refine ⟨v, Ev.succ ?_⟩
      simp only [slices_Index_int_int.l0, if_pos (show ((i : Int) < (l.length : Int)) by omega), if_pos (show (0 : Int) ≤ (i : Int) by omega), if_neg e, ix hi hl]
      exact hv
theorem countl_ev (l : List Int) (hl : l.length ≤ 1099511627776) : ∀ d i x, i ≤ l.length → l.length - i = d → 0 ≤ x → x ≤ 1048576 → ∃ c b, Ev (fun k => shape_Count.l0 k x l (l.length : Int) (i : Int)) (c, b) ∧ 0 ≤ c ∧ c ≤ 1048576 := by
  intro d
  induction d with
  | zero =>
    intro i x h1 h2 hx0 hx1
    refine ⟨x, true, Ev.succ ?_, hx0, hx1⟩
    simp only [shape_Count.l0, if_neg (show ¬ ((i : Int) < (l.length : Int)) by omega)]
    exact Ev.const _
  | succ d ih =>
    intro i x h1 h2 hx0 hx1
    have hi : i < l.length := by omega
    obtain ⟨t, ht, hb⟩ := count1_some (wrap64 (x * rd l (i : Int)))
    cases t with
    | true =>
      refine ⟨0, false, Ev.succ ?_, by omega, by omega⟩
      simp only [shape_Count.l0, if_pos (show ((i : Int) < (l.length : Int)) by omega), if_pos (show (0 : Int) ≤ (i : Int) by omega), ht]
      exact Ev.bind (Ev.const _) (Ev.const _)
    | false =>
      obtain ⟨c, b, hv, h3⟩ := ih (i + 1) (wrap64 (x * rd l (i : Int))) (by omega) (by omega) (hb rfl).1 (hb rfl).2
      refine ⟨c, b, Ev.succ ?_, h3⟩
      simp only [shape_Count.l0, if_pos (show ((i : Int) < (l.length : Int)) by omega), if_pos (show (0 : Int) ≤ (i : Int) by omega), ht, ix hi hl]
      exact Ev.bind (Ev.const _) hv
theorem count_ev (l : List Int) : ∃ c b, Ev (fun k => shape_Count.f k l) (c, b) ∧ 0 ≤ c ∧ c ≤ 1048576 := by
  by_cases h : (l.length : Int) > 16
  · refine ⟨0, false, ?_, by omega, by omega⟩
    simp only [shape_Count.f, if_pos h]
    refine Ev.succ ?_
    simp only [shape_Count.j0]
    exact Ev.const _
  · have hl : l.length ≤ 1099511627776 := by omega
    obtain ⟨v1, e1⟩ := index1_ev l hl l.length 0 (by omega) (by omega)
    obtain ⟨v2, e2⟩ := index_ev l 0 hl l.length 0 (by omega) (by omega)
    obtain ⟨c, b, e3, hc⟩ := countl_ev l hl l.length 0 1 (by omega) (by omega) (by omega) (by omega)
    simp only [shape_Count.f, if_neg h, slices_ContainsFunc_int_int.f, slices_IndexFunc_int_int.f]
    have hf : ∀ t, ∃ c b, Ev (fun k => shape_Count.j0 k l t) (c, b) ∧ 0 ≤ c ∧ c ≤ 1048576 := by
      intro t
      cases t with
      | true =>
        refine ⟨0, false, Ev.succ ?_, by omega, by omega⟩
        simp only [shape_Count.j0]
        exact Ev.const _
      | false =>
        cases hd : decide (v2 ≥ 0) with
        | true =>
          refine ⟨0, true, Ev.succ ?_, by omega, by omega⟩
          simp only [shape_Count.j0, slices_Contains_int_int.f, slices_Index_int_int.f]
          refine Ev.bind (u := true) (Ev.bind e2 (by simp only [hd]; exact Ev.const _)) (Ev.const _)
        | false =>
          refine ⟨c, b, Ev.succ ?_, hc⟩
          simp only [shape_Count.j0, slices_Contains_int_int.f, slices_Index_int_int.f]
          exact Ev.bind (u := false) (Ev.bind e2 (by simp only [hd]; exact Ev.const _)) e3
    obtain ⟨c', b', e4, hc'⟩ := hf (decide (v1 ≥ 0))
    exact ⟨c', b', Ev.bind (Ev.bind e1 (Ev.const _)) e4, hc'⟩
theorem valid_ev (a : Int) : ∃ v, Ev (fun k => utf8_ValidRune.f k a) v := by
  have hj : ∀ t, ∃ v, Ev (fun k => utf8_ValidRune.j0 k a t) v := by
    intro t
    cases t with
    | true => exact ⟨true, Ev.succ (by simp only [utf8_ValidRune.j0]; exact Ev.const _)⟩
    | false =>
      by_cases h1 : 57343 < a
      · by_cases h2 : a ≤ 1114111
        · exact ⟨true, Ev.succ (by simp only [utf8_ValidRune.j0, if_pos h1, if_pos h2]; exact Ev.const _)⟩
        · exact ⟨false, Ev.succ (by simp only [utf8_ValidRune.j0, if_pos h1, if_neg h2]; exact Ev.const _)⟩
      · exact ⟨false, Ev.succ (by simp only [utf8_ValidRune.j0, if_neg h1]; exact Ev.const _)⟩
  by_cases h : 0 ≤ a
  · simp only [utf8_ValidRune.f, if_pos h]; exact hj _
  · simp only [utf8_ValidRune.f, if_neg h]; exact hj _
theorem fits_ev (a b : Int) : ∃ v, Ev (fun k => array_fits.f k a b) v := by
  by_cases h1 : a = 1
  · simp only [array_fits.f, if_pos h1]; exact ⟨_, Ev.const _⟩
  · by_cases h2 : a = 2
    · simp only [array_fits.f, if_neg h1, if_pos h2]; exact ⟨_, Ev.const _⟩
    · by_cases h3 : a = 3
      · by_cases h4 : b = wrap64 (wrap32 b)
        · obtain ⟨v, hv⟩ := valid_ev (wrap32 b)
          refine ⟨v, ?_⟩
          simp only [array_fits.f, if_neg h1, if_neg h2, if_pos h3, if_pos h4]
          exact Ev.bind hv (Ev.const _)
        · simp only [array_fits.f, if_neg h1, if_neg h2, if_pos h3, if_neg h4]; exact ⟨_, Ev.const _⟩
      · simp only [array_fits.f, if_neg h1, if_neg h2, if_neg h3]; exact ⟨_, Ev.const _⟩
theorem wrongs_ev (l : List Int) (a : Int) (hl : l.length ≤ 1099511627776) : ∀ d i, i ≤ l.length → l.length - i = d → ∃ v, Ev (fun k => array_wrongs_int.l0 k a l (l.length : Int) (i : Int)) v := by
  intro d
  induction d with
  | zero =>
    intro i h1 h2
    refine ⟨false, Ev.succ ?_⟩
    simp only [array_wrongs_int.l0, if_neg (show ¬ ((i : Int) < (l.length : Int)) by omega)]
    exact Ev.const _
  | succ d ih =>
    intro i h1 h2
    have hi : i < l.length := by omega
    obtain ⟨t, ht⟩ := fits_ev a (rd l (i : Int))
    obtain ⟨v, hv⟩ := ih (i + 1) (by omega) (by omega)
    cases t with
    | true =>
      refine ⟨v, Ev.succ ?_⟩
      simp only [array_wrongs_int.l0, if_pos (show ((i : Int) < (l.length : Int)) by omega), if_pos (show (0 : Int) ≤ (i : Int) by omega), array_items_1.f, ix hi hl]
      exact Ev.bind (u := true) (Ev.bind ht (Ev.const _)) hv
    | false =>
      refine ⟨true, Ev.succ ?_⟩
      simp only [array_wrongs_int.l0, if_pos (show ((i : Int) < (l.length : Int)) by omega), if_pos (show (0 : Int) ≤ (i : Int) by omega), array_items_1.f]
      exact Ev.bind (u := false) (Ev.bind ht (Ev.const _)) (Ev.const _)
theorem norm_ev : ∀ (d : Nat) (x e : Int), -9223372036854775808 ≤ e → e ≤ 9223372036854775807 → (32768 - e).toNat ≤ d → ∃ v, Ev (fun k => decimal_Norm.l0 k x e) v := by
  intro d
  induction d with
  | zero =>
    intro x e h1 h2 h3
    have h4 : ¬ e ≤ 32767 := by omega
    have h5 : ¬ e < -32768 := by omega
    have h6 : e > 32767 := by omega
    refine ⟨(0, 0, false), Ev.succ ?_⟩
    by_cases h : Int.tmod x 10 = 0
    · simp only [decimal_Norm.l0, if_pos h, if_neg h4, if_neg h5, if_pos h6]; exact Ev.const _
    · simp only [decimal_Norm.l0, if_neg h, if_neg h5, if_pos h6]; exact Ev.const _
  | succ d ih =>
    intro x e h1 h2 h3
    have hl : ∃ v : Int × Int × Bool, (if e < -32768 then some (0, 0, false) else if e > 32767 then some (0, 0, false) else some (x, e, true)) = some v := by
      split
      · exact ⟨_, rfl⟩
      · split <;> exact ⟨_, rfl⟩
    obtain ⟨v, hv⟩ := hl
    by_cases h : Int.tmod x 10 = 0
    · by_cases h4 : e ≤ 32767
      · have hw : wrap64 (e + 1) = e + 1 := w64 (by omega) (by omega)
        obtain ⟨v', hv'⟩ := ih (wrap64 (Int.tdiv x 10)) (wrap64 (e + 1)) (by omega) (by omega) (by omega)
        refine ⟨v', Ev.succ ?_⟩
        simp only [decimal_Norm.l0, if_pos h, if_pos h4]; exact hv'
      · refine ⟨v, Ev.succ ?_⟩
        simp only [decimal_Norm.l0, if_pos h, if_neg h4, hv]; exact Ev.const _
    · refine ⟨v, Ev.succ ?_⟩
      simp only [decimal_Norm.l0, if_neg h, hv]; exact Ev.const _
def OkD (y : S41) : Prop := -9223372036854775808 ≤ y.f1 ∧ y.f1 ≤ 9223372036854775807
def Ok (n : S32) : Prop := ∀ y ∈ n.f3, OkD y
theorem decright_ev (y : S41) (h : OkD y) : ∃ v, Ev (fun k => decimal_Right.f k y.f0 y.f1) v := by
  have hn : ∃ v, Ev (fun k => decimal_Norm.f k y.f0 y.f1) v := by
    by_cases h0 : y.f0 = 0
    · simp only [decimal_Norm.f, if_pos h0]; exact ⟨_, Ev.const _⟩
    · simp only [decimal_Norm.f, if_neg h0]; exact norm_ev _ y.f0 y.f1 h.1 h.2 (Nat.le_refl _)
  obtain ⟨⟨a, b, c⟩, hv⟩ := hn
  cases c with
  | true => exact ⟨_, Ev.bind hv (Ev.const _)⟩
  | false => exact ⟨_, Ev.bind hv (Ev.const _)⟩
theorem decs_ev (l : List S41) (ok : ∀ y ∈ l, OkD y) (hl : l.length ≤ 1099511627776) : ∀ d i, i ≤ l.length → l.length - i = d → ∃ v, Ev (fun k => api_Dec_55.l0 k l (l.length : Int) (i : Int)) v := by
  intro d
  induction d with
  | zero =>
    intro i h1 h2
    refine ⟨false, Ev.succ ?_⟩
    simp only [api_Dec_55.l0, if_neg (show ¬ ((i : Int) < (l.length : Int)) by omega)]
    exact Ev.const _
  | succ d ih =>
    intro i h1 h2
    have hi : i < l.length := by omega
    have hr : rd_T41 l (i : Int) = l[i] := by
      unfold rd_T41
      rw [List.getD_eq_getElem?_getD, Int.toNat_natCast, List.getElem?_eq_getElem hi]; rfl
    obtain ⟨t, ht⟩ := decright_ev (rd_T41 l (i : Int)) (by rw [hr]; exact ok _ (List.getElem_mem _))
    obtain ⟨v, hv⟩ := ih (i + 1) (by omega) (by omega)
    cases t with
    | true =>
      refine ⟨v, Ev.succ ?_⟩
      simp only [api_Dec_55.l0, if_pos (show ((i : Int) < (l.length : Int)) by omega), if_pos (show (0 : Int) ≤ (i : Int) by omega), ix hi hl]
      exact Ev.bind ht hv
    | false =>
      refine ⟨true, Ev.succ ?_⟩
      simp only [api_Dec_55.l0, if_pos (show ((i : Int) < (l.length : Int)) by omega), if_pos (show (0 : Int) ≤ (i : Int) by omega)]
      exact Ev.bind ht (Ev.const _)
theorem items1_ev (x3 x5 x6 a a' : Int) (b c : List Int) (e : List S41) (ok : ∀ y ∈ e, OkD y) (h0 : 0 ≤ x3) (h1 : x3 ≤ 1048576) (h5 : x5 ≤ 1048576) (h6 : x6 ≤ 1048576) :
    ∃ v, Ev (fun k => array_items.j1 k x3 x5 x6 a a' b c e) v ∧ (v = -1 ∨ (v = x3 ∧ (c.length : Int) = x5 ∧ (e.length : Int) = x6)) := by
  by_cases g1 : (c.length : Int) = x5
  · by_cases g2 : (e.length : Int) = x6
    · obtain ⟨t, ht⟩ := wrongs_ev c a (by omega) c.length 0 (by omega) (by omega)
      obtain ⟨s, hs⟩ := decs_ev e ok (by omega) e.length 0 (by omega) (by omega)
      cases t with
      | true =>
        refine ⟨-1, Ev.succ ?_, .inl rfl⟩
        simp only [array_items.j1, if_pos g1, if_pos g2, array_wrongs_int.f]
        exact Ev.bind ht (Ev.const _)
      | false =>
        cases s with
        | true =>
          refine ⟨-1, Ev.succ ?_, .inl rfl⟩
          simp only [array_items.j1, if_pos g1, if_pos g2, array_wrongs_int.f, api_Dec_55.f]
          exact Ev.bind ht (Ev.bind hs (Ev.const _))
        | false =>
          refine ⟨x3, Ev.succ ?_, .inr ⟨rfl, g1, g2⟩⟩
          simp only [array_items.j1, if_pos g1, if_pos g2, array_wrongs_int.f, api_Dec_55.f]
          exact Ev.bind ht (Ev.bind hs (Ev.const _))
    · refine ⟨-1, Ev.succ ?_, .inl rfl⟩
      simp only [array_items.j1, if_pos g1, if_neg g2]; exact Ev.const _
  · refine ⟨-1, Ev.succ ?_, .inl rfl⟩
    simp only [array_items.j1, if_neg g1]; exact Ev.const _
theorem items0_ev (x3 a a' : Int) (t : Bool) (b c : List Int) (e : List S41) (ok : ∀ y ∈ e, OkD y) (h0 : 0 ≤ x3) (h1 : x3 ≤ 1048576) :
    ∃ v, Ev (fun k => array_items.j0 k x3 0 0 a t a' b c e) v ∧ (v = -1 ∨ (v = x3 ∧ (a = 5 → t = false → c = [] ∧ e = []) ∧ (a ≠ 5 → v ≤ (c.length : Int) ∨ v ≤ (e.length : Int)))) := by
  cases t with
  | true =>
    obtain ⟨v, hv, hb⟩ := items1_ev x3 x3 0 a a' b c e ok h0 h1 h1 (by omega)
    exact ⟨v, Ev.succ (by simp only [array_items.j0]; exact hv), hb.imp id fun h => ⟨h.1, fun _ h' => by simp at h', fun _ => .inl (by omega)⟩⟩
  | false =>
    by_cases g1 : a = 4
    · obtain ⟨v, hv, hb⟩ := items1_ev x3 0 x3 a a' b c e ok h0 h1 (by omega) h1
      exact ⟨v, Ev.succ (by simp only [array_items.j0, if_pos g1]; exact hv), hb.imp id fun h => ⟨h.1, fun h' _ => by omega, fun _ => .inr (by omega)⟩⟩
    · by_cases g2 : a = 5
      · obtain ⟨v, hv, hb⟩ := items1_ev x3 0 0 a a' b c e ok h0 h1 (by omega) (by omega)
        exact ⟨v, Ev.succ (by simp only [array_items.j0, if_neg g1, if_pos g2]; exact hv), hb.imp id fun h => ⟨h.1, fun _ _ => ⟨List.eq_nil_of_length_eq_zero (by omega), List.eq_nil_of_length_eq_zero (by omega)⟩, fun h' => absurd g2 h'⟩⟩
      · exact ⟨-1, Ev.succ (by simp only [array_items.j0, if_neg g1, if_neg g2]; exact Ev.const _), .inl rfl⟩
def Spec (n : S32) (v : Int) : Prop := Ev (fun k => shape_Count.f k n.f1) (v, true) ∧ 0 ≤ v ∧ v ≤ 1048576 ∧ (n.f0 = 5 → n.f2 = [] ∧ n.f3 = []) ∧ (n.f0 ≠ 5 → v ≤ (n.f2.length : Int) ∨ v ≤ (n.f3.length : Int))
theorem items_ev (n : S32) (ok : Ok n) : ∃ v, Ev (fun k => array_items.f k n.f0 n.f1 n.f2 n.f3) v ∧ (v = -1 ∨ Spec n v) := by
  obtain ⟨c, b, hc, h0, h1⟩ := count_ev n.f1
  cases b with
  | true =>
    have hr : ∃ v, Ev (fun k => (if n.f0 = 1 then (array_items.j0 k c 0 0 n.f0 (n.f0 == 1) n.f0 n.f1 n.f2 n.f3) else (if n.f0 = 2 then (array_items.j0 k c 0 0 n.f0 (n.f0 == 2) n.f0 n.f1 n.f2 n.f3) else (array_items.j0 k c 0 0 n.f0 (n.f0 == 3) n.f0 n.f1 n.f2 n.f3)))) v ∧ (v = -1 ∨ (v = c ∧ (n.f0 = 5 → n.f2 = [] ∧ n.f3 = []) ∧ (n.f0 ≠ 5 → v ≤ (n.f2.length : Int) ∨ v ≤ (n.f3.length : Int)))) := by
      by_cases g1 : n.f0 = 1
      · simp only [if_pos g1]
        obtain ⟨v, hv, hb⟩ := items0_ev c n.f0 n.f0 (n.f0 == 1) n.f1 n.f2 n.f3 ok h0 h1
        exact ⟨v, hv, hb.imp id fun h => ⟨h.1, fun h' => by omega, h.2.2⟩⟩
      · by_cases g2 : n.f0 = 2
        · simp only [if_neg g1, if_pos g2]
          obtain ⟨v, hv, hb⟩ := items0_ev c n.f0 n.f0 (n.f0 == 2) n.f1 n.f2 n.f3 ok h0 h1
          exact ⟨v, hv, hb.imp id fun h => ⟨h.1, fun h' => by omega, h.2.2⟩⟩
        · simp only [if_neg g1, if_neg g2]
          obtain ⟨v, hv, hb⟩ := items0_ev c n.f0 n.f0 (n.f0 == 3) n.f1 n.f2 n.f3 ok h0 h1
          exact ⟨v, hv, hb.imp id fun h => ⟨h.1, fun h' => h.2.1 h' (beq_eq_false_iff_ne.mpr (by omega)), h.2.2⟩⟩
    obtain ⟨v, hv, hb⟩ := hr
    refine ⟨v, ?_, hb.imp id fun h => ?_⟩
    · simp only [array_items.f]
      exact Ev.bind hc hv
    · refine ⟨by rw [h.1]; exact hc, by rw [h.1]; exact h0, by rw [h.1]; exact h1, h.2⟩
  | false =>
    refine ⟨-1, ?_, .inl rfl⟩
    simp only [array_items.f]
    exact Ev.bind hc (Ev.const _)
noncomputable def itm (n : S32) : Int := open Classical in if h : ∃ v, Ev (fun k => array_items.f k n.f0 n.f1 n.f2 n.f3) v ∧ (v = -1 ∨ Spec n v) then h.choose else -1
theorem itm_le (n : S32) : itm n ≤ 1048576 := by
  unfold itm
  split
  · next h =>
    rcases h.choose_spec.2 with e | e
    · omega
    · exact e.2.2.1
  · omega
theorem itm_said (n : S32) (ok : Ok n) : Ev (fun k => array_items.f k n.f0 n.f1 n.f2 n.f3) (itm n) ∧ (itm n = -1 ∨ Spec n (itm n)) := by
  obtain ⟨v, hv, hb⟩ := items_ev n ok
  have h : ∃ v, Ev (fun k => array_items.f k n.f0 n.f1 n.f2 n.f3) v ∧ (v = -1 ∨ Spec n v) := ⟨v, hv, hb⟩
  have e : itm n = v := by
    unfold itm
    rw [dif_pos h]
    exact Ev.uniq h.choose_spec.1 hv
  rw [e]
  exact ⟨hv, hb⟩
theorem itm_ev (n : S32) (ok : Ok n) : Ev (fun k => array_items.f k n.f0 n.f1 n.f2 n.f3) (itm n) ∧ -1 ≤ itm n ∧ itm n ≤ 1048576 := by
  obtain ⟨h, hb⟩ := itm_said n ok
  refine ⟨h, ?_⟩
  rcases hb with e | e
  · omega
  · have := e.2.1
    have := e.2.2.1
    omega
def dec1 (v : Int) : Int := wrap64 (v - 1)
def decT : List Int → List Int
  | [] => []
  | x :: s => dec1 x :: s
theorem decT_length (s : List Int) : (decT s).length = s.length := by cases s <;> rfl
def clrN : Nat → List Int → List Int
  | 0, s => s
  | _ + 1, [] => []
  | n + 1, x :: s => if x = 0 then clrN n (decT s) else x :: s
def clr (s : List Int) : List Int := clrN s.length s
theorem clr_nil : clr [] = [] := rfl
theorem clr_cons (x : Int) (s : List Int) : clr (x :: s) = if x = 0 then clr (decT s) else x :: s := by
  unfold clr
  rw [decT_length]; rfl
theorem clr_length : ∀ (n : Nat) (s : List Int), s.length ≤ n → (clr s).length ≤ s.length := by
  intro n
  induction n with
  | zero =>
    intro s hs
    obtain rfl := List.eq_nil_of_length_eq_zero (Nat.le_zero.1 hs)
    exact Nat.le_refl _
  | succ n ih =>
    intro s hs
    cases s with
    | nil => exact Nat.le_refl _
    | cons x s =>
      rw [clr_cons]
      split
      · have := ih (decT s) (by rw [decT_length]; simp only [List.length_cons] at hs; omega)
        rw [decT_length] at this
        simp only [List.length_cons]; omega
      · exact Nat.le_refl _
noncomputable def push (st : List Int) (n : S32) : List Int := if n.f0 = 5 then itm n :: st else decT st
theorem push_length (st : List Int) (n : S32) : (push st n).length ≤ st.length + 1 := by
  unfold push
  split
  · exact Nat.le_refl _
  · rw [decT_length]; omega
open Classical in
noncomputable def walkS : Int → Int → List Int → Int → List S32 → Int × Int × Int
  | _, _, _, _, [] => (0, 0, 0)
  | all, deep, st, i, n :: r =>
    if itm n < 0 ∨ wrap64 (all + itm n) > 1048576 ∨ 16 ≤ st.length then (0, 0, 0)
    else if clr (push st n) = [] then (i + 1, wrap64 (all + itm n), mx deep (wrap64 ((st.length : Int) + 1)))
    else walkS (wrap64 (all + itm n)) (mx deep (wrap64 ((st.length : Int) + 1))) (clr (push st n)) (i + 1) r
theorem last_ix {n : Nat} (h : 0 < n) (hn : n ≤ 1099511627776) : wrap64 ((n : Int) - 1) = ((n - 1 : Nat) : Int) := by rw [w64 (by omega) (by omega)]; omega
theorem rev_last (x : Int) (s : List Int) : rd (x :: s).reverse ((s.length : Nat) : Int) = x := by
  rw [rd_at _ _ (by simp)]
  simp
theorem rev_set (x v : Int) (s : List Int) : (x :: s).reverse.set s.length v = (v :: s).reverse := by
  simp only [List.reverse_cons]
  rw [List.set_append_right _ _ (by simp)]
  simp
theorem rev_take (x : Int) (s : List Int) : (x :: s).reverse.take s.length = s.reverse := by
  rw [List.reverse_cons]
  rw [List.take_append_of_le_length (by simp)]
  exact List.take_of_length_le (by simp)
theorem pop_ev (all deep i6 : Int) (x9 : List S32) (x10 x11 : Int) (v : Int × Int × Int) : ∀ (n : Nat) (st : List Int), st.length ≤ n → st.length ≤ 100 →
    Ev (fun k => array_walk.j4 k all deep (clr st).reverse i6 x9 x10 x11 false) v → Ev (fun k => array_walk.l1 k all deep st.reverse i6 x9 x10 x11) v := by
  intro n
  induction n with
  | zero =>
    intro st hs hc h
    obtain rfl := List.eq_nil_of_length_eq_zero (Nat.le_zero.1 hs)
    refine Ev.succ ?_
    simp only [array_walk.l1, List.reverse_nil, List.length_nil, if_neg (show ¬ (((0 : Nat) : Int) > 0) by decide)]
    exact h
  | succ n ih =>
    intro st hs hc h
    cases st with
    | nil =>
      refine Ev.succ ?_
      simp only [array_walk.l1, List.reverse_nil, List.length_nil, if_neg (show ¬ (((0 : Nat) : Int) > 0) by decide)]
      exact h
    | cons x s =>
      simp only [List.length_cons] at hs hc
      have hL : (x :: s).reverse.length = s.length + 1 := by simp
      have hw : wrap64 (((s.length + 1 : Nat) : Int) - 1) = ((s.length : Nat) : Int) := last_ix (by omega) (by omega)
      refine Ev.succ ?_
      simp only [array_walk.l1, hL, hw, if_pos (show (((s.length + 1 : Nat) : Int) > 0) by omega), if_pos (show (0 : Int) ≤ ((s.length : Nat) : Int) by omega), if_pos (show ((s.length : Nat) : Int) < ((s.length + 1 : Nat) : Int) by omega), rev_last]
      rw [clr_cons] at h
      by_cases e : x = 0
      · rw [if_pos e] at h
        subst e
        refine Ev.succ ?_
        simp only [array_walk.j4, hL, hw, BEq.rfl, if_true, if_pos (show (0 : Int) ≤ ((s.length : Nat) : Int) by omega), if_pos (show ((s.length : Nat) : Int) ≤ ((s.length + 1 : Nat) : Int) by omega), Int.toNat_natCast, rev_take, Option.bind_some, List.length_reverse]
        cases s with
        | nil =>
          simp only [List.length_nil, if_neg (show ¬ (((0 : Nat) : Int) > 0) by decide)]
          exact ih [] (by simp) (by simp) h
        | cons y s =>
          have hw2 : wrap64 (((s.length + 1 : Nat) : Int) - 1) = ((s.length : Nat) : Int) := last_ix (by omega) (by simp only [List.length_cons] at hc; omega)
          simp only [List.length_cons, hw2, if_pos (show (((s.length + 1 : Nat) : Int) > 0) by omega), if_pos (show (0 : Int) ≤ ((s.length : Nat) : Int) by omega), if_pos (show ((s.length : Nat) : Int) < ((s.length + 1 : Nat) : Int) by omega), rev_last, Int.toNat_natCast, rev_set]
          exact ih (dec1 y :: s) (by simp only [List.length_cons] at hs ⊢; omega) (by simp only [List.length_cons] at hc ⊢; omega) h
      · rw [if_neg e] at h
        rw [show (x == 0) = false from beq_eq_false_iff_ne.mpr e]
        exact h
theorem walk_ev (l : List S32) (ok : ∀ n ∈ l, Ok n) (hl : l.length ≤ 1099511627776) : ∀ d i, i ≤ l.length → l.length - i = d → ∀ (all deep : Int) (st : List Int), st.length ≤ 17 →
    Ev (fun k => array_walk.l0 k all deep st.reverse l (l.length : Int) (i : Int)) (walkS all deep st (i : Int) (l.drop i)) := by
  intro d
  induction d with
  | zero =>
    intro i h1 h2 all deep st hs
    have hd : l.drop i = [] := List.drop_eq_nil_of_le (by omega)
    rw [hd]
    refine Ev.succ ?_
    simp only [array_walk.l0, if_neg (show ¬ ((i : Int) < (l.length : Int)) by omega)]
    exact Ev.const _
  | succ d ih =>
    intro i h1 h2 all deep st hs
    have hi : i < l.length := by omega
    have hd : l.drop i = l[i] :: l.drop (i + 1) := (List.drop_eq_getElem_cons hi)
    rw [hd]
    generalize hn : l[i] = n
    have okn : Ok n := by rw [← hn]; exact ok _ (List.getElem_mem _)
    obtain ⟨hit, hb0, hb1⟩ := itm_ev n okn
    have hrd : rd_T32 l (i : Int) = n := by rw [rdT_at l i hi, hn]
    have hfail : ∀ (a b : Int), Ev (fun k => array_walk.j1 k (wrap64 (all + itm n)) deep st.reverse (i : Int) (itm n) l (l.length : Int) (i : Int) true n.f0 n.f1 n.f2 n.f3) (0, 0, 0) := fun _ _ => Ev.succ (by simp only [array_walk.j1]; exact Ev.const _)
    have hgo : st.length < 16 → Ev (fun k => array_walk.j2 k (wrap64 (all + itm n)) (mx deep (wrap64 ((st.length : Int) + 1))) (push st n).reverse (i : Int) l (l.length : Int) (i : Int))
        (if clr (push st n) = [] then ((i : Int) + 1, wrap64 (all + itm n), mx deep (wrap64 ((st.length : Int) + 1))) else walkS (wrap64 (all + itm n)) (mx deep (wrap64 ((st.length : Int) + 1))) (clr (push st n)) ((i : Int) + 1) (l.drop (i + 1))) := by
      intro hst
      refine Ev.succ ?_
      simp only [array_walk.j2]
      have hp := push_length st n
      refine pop_ev _ _ _ _ _ _ _ (push st n).length (push st n) (Nat.le_refl _) (by omega) ?_
      refine Ev.succ ?_
      simp only [array_walk.j4, Bool.false_eq_true, if_false, List.length_reverse]
      have hcl := clr_length (push st n).length (push st n) (Nat.le_refl _)
      by_cases e : clr (push st n) = []
      · simp only [e, List.length_nil, if_pos (show (((0 : Nat) : Int)) = 0 by rfl), if_true]
        rw [show wrap64 ((i : Int) + 1) = (i : Int) + 1 by rw [ix hi hl]; omega]
        exact Ev.const _
      · have hz : ¬ (((clr (push st n)).length : Int) = 0) := fun h0 => e (List.eq_nil_of_length_eq_zero (by omega))
        simp only [if_neg e, if_neg hz, ix hi hl]
        have hi1 : ((i : Int) + 1) = ((i + 1 : Nat) : Int) := by omega
        rw [hi1]
        exact ih (i + 1) (by omega) (by omega) _ _ _ (by omega)
    refine Ev.succ ?_
    simp only [array_walk.l0, if_pos (show ((i : Int) < (l.length : Int)) by omega), if_pos (show (0 : Int) ≤ (i : Int) by omega), hrd]
    refine Ev.bind hit ?_
    by_cases g1 : itm n < 0
    · simp only [walkS, if_pos g1, if_pos (show itm n < 0 ∨ wrap64 (all + itm n) > 1048576 ∨ 16 ≤ st.length from .inl g1)]
      exact hfail 0 0
    · by_cases g2 : wrap64 (all + itm n) > 1048576
      · simp only [walkS, if_neg g1, if_pos g2, if_pos (show itm n < 0 ∨ wrap64 (all + itm n) > 1048576 ∨ 16 ≤ st.length from .inr (.inl g2))]
        exact hfail 0 0
      · simp only [if_neg g1, if_neg g2, List.length_reverse]
        by_cases g3 : 16 ≤ st.length
        · simp only [walkS, if_pos (show itm n < 0 ∨ wrap64 (all + itm n) > 1048576 ∨ 16 ≤ st.length from .inr (.inr g3)), decide_eq_true (show ((st.length : Int) ≥ 16) by omega)]
          exact hfail 0 0
        · simp only [walkS, if_neg (show ¬ (itm n < 0 ∨ wrap64 (all + itm n) > 1048576 ∨ 16 ≤ st.length) from fun h => h.elim g1 fun h => h.elim g2 g3), decide_eq_false (show ¬ ((st.length : Int) ≥ 16) by omega)]
          refine Ev.succ ?_
          simp only [array_walk.j1, Bool.false_eq_true, if_false, List.length_reverse]
          replace hgo := hgo (by omega)
          unfold push at hgo
          by_cases g5 : n.f0 = 5
          · simp only [if_pos g5] at hgo
            simp only [if_pos g5, if_pos (show st.length < 17592186044416 by omega)]
            unfold push
            simp only [if_pos g5]
            rw [List.reverse_cons] at hgo
            exact hgo
          · simp only [if_neg g5] at hgo ⊢
            unfold push
            simp only [if_neg g5]
            cases st with
            | nil => exact hgo
            | cons x s =>
              have hw : wrap64 (((s.length + 1 : Nat) : Int) - 1) = ((s.length : Nat) : Int) := last_ix (by omega) (by simp only [List.length_cons] at hs; omega)
              simp only [List.length_cons, hw, if_pos (show (((s.length + 1 : Nat) : Int) > 0) by omega), if_pos (show (0 : Int) ≤ ((s.length : Nat) : Int) by omega), if_pos (show ((s.length : Nat) : Int) < ((s.length + 1 : Nat) : Int) by omega), rev_last, Int.toNat_natCast, rev_set]
              simp only [List.length_cons] at hgo
              exact hgo
theorem walkS_cut : ∀ (r : List S32) (all deep : Int) (st : List Int) (i : Nat),
    (walkS all deep st (i : Int) r).1 = 0 ∨ ∃ j, 1 ≤ j ∧ j ≤ r.length ∧ (walkS all deep st (i : Int) r).1 = ((i + j : Nat) : Int) ∧ (∀ r', walkS all deep st (i : Int) (r.take j ++ r') = walkS all deep st (i : Int) r) ∧ ∀ m, m < j → walkS all deep st (i : Int) (r.take m) = (0, 0, 0) := by
  intro r
  induction r with
  | nil => intro all deep st i; exact .inl rfl
  | cons n r ih =>
    intro all deep st i
    by_cases g : itm n < 0 ∨ wrap64 (all + itm n) > 1048576 ∨ 16 ≤ st.length
    · left
      simp only [walkS, if_pos g]
    · by_cases e : clr (push st n) = []
      · right
        refine ⟨1, Nat.le_refl _, by simp, ?_, fun r' => ?_, fun m hm => ?_⟩
        · simp only [walkS, if_neg g, if_pos e]; omega
        · simp only [List.take_succ_cons, List.take_zero, List.cons_append, walkS, if_neg g, if_pos e]
        · obtain rfl : m = 0 := by omega
          simp only [List.take_zero, walkS]
      · have hi : ((i : Int) + 1) = ((i + 1 : Nat) : Int) := by omega
        rcases ih (wrap64 (all + itm n)) (mx deep (wrap64 ((st.length : Int) + 1))) (clr (push st n)) (i + 1) with h | ⟨j, h1, h2, h3, h4, h5⟩
        · left
          simp only [walkS, if_neg g, if_neg e, hi]; exact h
        · right
          refine ⟨j + 1, by omega, by simp only [List.length_cons]; omega, ?_, fun r' => ?_, fun m hm => ?_⟩
          · simp only [walkS, if_neg g, if_neg e, hi]; rw [h3]; omega
          · simp only [List.take_succ_cons, List.cons_append, walkS, if_neg g, if_neg e, hi]; exact h4 r'
          · cases m with
            | zero => simp only [List.take_zero, walkS]
            | succ m => simp only [List.take_succ_cons, walkS, if_neg g, if_neg e, hi]; exact h5 m (by omega)
noncomputable def tk (l : List S32) : Int := (walkS 0 0 [] 0 l).1
theorem tk_cut (l : List S32) : tk l = 0 ∨ ∃ j, 1 ≤ j ∧ j ≤ l.length ∧ tk l = (j : Int) ∧ (∀ r', walkS 0 0 [] 0 (l.take j ++ r') = walkS 0 0 [] 0 l) ∧ ∀ m, m < j → tk (l.take m) = 0 := by
  rcases walkS_cut l 0 0 [] 0 with h | ⟨j, h1, h2, h3, h4, h5⟩
  · exact .inl h
  · refine .inr ⟨j, h1, h2, ?_, h4, fun m hm => ?_⟩
    · have := h3
      rw [Nat.zero_add] at this
      exact this
    · have := h5 m hm
      unfold tk
      exact congrArg Prod.fst this
theorem walkf_ev (l : List S32) (ok : ∀ n ∈ l, Ok n) (hl : l.length ≤ 1099511627776) : Ev (fun k => array_walk.f k l) (walkS 0 0 [] 0 l) := by
  have := walk_ev l ok hl l.length 0 (by omega) (by omega) 0 0 [] (by simp)
  simp only [array_walk.f]
  exact this
theorem take_ev (l : List S32) (ok : ∀ n ∈ l, Ok n) (hl : l.length ≤ 1099511627776) : Ev (fun k => array_Take.f k l) (tk l) := by
  simp only [array_Take.f]
  exact Ev.bind (walkf_ev l ok hl) (Ev.const _)
noncomputable def rt (l : List S32) : Bool := if (l.length : Int) > 0 then (tk l == (l.length : Int)) else false
theorem right_ev (l : List S32) (ok : ∀ n ∈ l, Ok n) (hl : l.length ≤ 1099511627776) : Ev (fun k => array_Right.f k l) (rt l) := by
  unfold rt
  by_cases h : (l.length : Int) > 0
  · simp only [array_Right.f, if_pos h]
    exact Ev.bind (take_ev l ok hl) (Ev.const _)
  · simp only [array_Right.f, if_neg h]
    exact Ev.const _
def Fits (n : S32) : Prop := n.f1.length ≤ 30 ∧ n.f2.length ≤ 300 ∧ n.f3.length ≤ 300
theorem few_loop (l : List S32) : ∀ d i, i ≤ l.length → i ≤ 200 → 200 - i = d → ∀ x : Int, 0 ≤ x → x ≤ 600 * (i : Int) →
    ∃ b, Ev (fun k => decklelaw10_Few.l0 k l x (i : Int)) b ∧ (b = true → l.length ≤ 100 ∧ ∀ n ∈ l.drop i, Fits n) := by
  intro d
  induction d with
  | zero =>
    intro i h1 h2 h3 x hx0 hx1
    by_cases hi : i < l.length
    · refine ⟨false, Ev.succ ?_, by simp⟩
      simp only [decklelaw10_Few.l0, if_pos (show ((i : Int) < (l.length : Int)) by omega), decide_eq_false (show ¬ ((i : Int) < 200) by omega)]
      refine Ev.succ ?_
      simp only [decklelaw10_Few.j1, Bool.false_eq_true, if_false, if_neg (show ¬ ((l.length : Int) ≤ 100) by omega)]
      exact Ev.const _
    · by_cases g : (l.length : Int) ≤ 100
      · refine ⟨decide (x ≤ 1000), Ev.succ ?_, fun _ => ⟨by omega, by rw [List.drop_eq_nil_of_le (by omega)]; simp⟩⟩
        simp only [decklelaw10_Few.l0, if_neg (show ¬ ((i : Int) < (l.length : Int)) by omega)]
        refine Ev.succ ?_
        simp only [decklelaw10_Few.j1, Bool.false_eq_true, if_false, if_pos g]
        exact Ev.const _
      · refine ⟨false, Ev.succ ?_, by simp⟩
        simp only [decklelaw10_Few.l0, if_neg (show ¬ ((i : Int) < (l.length : Int)) by omega)]
        refine Ev.succ ?_
        simp only [decklelaw10_Few.j1, Bool.false_eq_true, if_false, if_neg g]
        exact Ev.const _
  | succ d ih =>
    intro i h1 h2 h3 x hx0 hx1
    by_cases hi : i < l.length
    · have hrd : rd_T32 l (i : Int) = l[i] := rdT_at l i hi
      have hd : l.drop i = l[i] :: l.drop (i + 1) := (List.drop_eq_getElem_cons hi)
      rw [hd]
      generalize l[i] = n at hrd
      by_cases g1 : (n.f1.length : Int) > 30
      · refine ⟨false, Ev.succ ?_, by simp⟩
        simp only [decklelaw10_Few.l0, if_pos (show ((i : Int) < (l.length : Int)) by omega), decide_eq_true (show ((i : Int) < 200) by omega)]
        refine Ev.succ ?_
        simp only [decklelaw10_Few.j1, if_true, if_pos (show (0 : Int) ≤ (i : Int) by omega), if_pos (show ((i : Int) < (l.length : Int)) by omega), hrd, if_pos g1]
        exact Ev.const _
      · by_cases g2 : (n.f2.length : Int) > 300
        · refine ⟨false, Ev.succ ?_, by simp⟩
          simp only [decklelaw10_Few.l0, if_pos (show ((i : Int) < (l.length : Int)) by omega), decide_eq_true (show ((i : Int) < 200) by omega)]
          refine Ev.succ ?_
          simp only [decklelaw10_Few.j1, if_true, if_pos (show (0 : Int) ≤ (i : Int) by omega), if_pos (show ((i : Int) < (l.length : Int)) by omega), hrd, if_neg g1, if_pos g2]
          exact Ev.const _
        · by_cases g3 : (n.f3.length : Int) > 300
          · refine ⟨false, Ev.succ ?_, by simp⟩
            simp only [decklelaw10_Few.l0, if_pos (show ((i : Int) < (l.length : Int)) by omega), decide_eq_true (show ((i : Int) < 200) by omega)]
            refine Ev.succ ?_
            simp only [decklelaw10_Few.j1, if_true, if_pos (show (0 : Int) ≤ (i : Int) by omega), if_pos (show ((i : Int) < (l.length : Int)) by omega), hrd, if_neg g1, if_neg g2, if_pos g3]
            exact Ev.const _
          · have hw : wrap64 (wrap64 (x + (n.f2.length : Int)) + (n.f3.length : Int)) = x + (n.f2.length : Int) + (n.f3.length : Int) := by
              rw [w64 (n := x + (n.f2.length : Int)) (by omega) (by omega), w64 (by omega) (by omega)]
            have hw2 : wrap64 ((i : Int) + 1) = ((i + 1 : Nat) : Int) := by rw [w64 (by omega) (by omega)]; omega
            obtain ⟨b, hb, hb2⟩ := ih (i + 1) (by omega) (by omega) (by omega) (x + (n.f2.length : Int) + (n.f3.length : Int)) (by omega) (by omega)
            refine ⟨b, Ev.succ ?_, fun e => ⟨(hb2 e).1, fun y hy => ?_⟩⟩
            · simp only [decklelaw10_Few.l0, if_pos (show ((i : Int) < (l.length : Int)) by omega), decide_eq_true (show ((i : Int) < 200) by omega)]
              refine Ev.succ ?_
              simp only [decklelaw10_Few.j1, if_true, if_pos (show (0 : Int) ≤ (i : Int) by omega), if_pos (show ((i : Int) < (l.length : Int)) by omega), hrd, if_neg g1, if_neg g2, if_neg g3, hw, hw2]
              exact hb
            · rcases List.mem_cons.1 hy with rfl | hy
              · exact ⟨by omega, by omega, by omega⟩
              · exact (hb2 e).2 y hy
    · by_cases g : (l.length : Int) ≤ 100
      · refine ⟨decide (x ≤ 1000), Ev.succ ?_, fun _ => ⟨by omega, by rw [List.drop_eq_nil_of_le (by omega)]; simp⟩⟩
        simp only [decklelaw10_Few.l0, if_neg (show ¬ ((i : Int) < (l.length : Int)) by omega)]
        refine Ev.succ ?_
        simp only [decklelaw10_Few.j1, Bool.false_eq_true, if_false, if_pos g]
        exact Ev.const _
      · refine ⟨false, Ev.succ ?_, by simp⟩
        simp only [decklelaw10_Few.l0, if_neg (show ¬ ((i : Int) < (l.length : Int)) by omega)]
        refine Ev.succ ?_
        simp only [decklelaw10_Few.j1, Bool.false_eq_true, if_false, if_neg g]
        exact Ev.const _
theorem few_ev (l : List S32) : ∃ b, Ev (fun k => decklelaw10_Few.f k l) b ∧ (b = true → l.length ≤ 100 ∧ ∀ n ∈ l, Fits n) := by
  obtain ⟨b, hb, h2⟩ := few_loop l 200 0 (by omega) (by omega) rfl 0 (by omega) (by omega)
  exact ⟨b, hb, h2⟩
theorem copy_some (l : List S32) (h : l.length ≤ 100) (hf : ∀ n ∈ l, Fits n) : array_Copy.f l = some l := by
  unfold array_Copy.f
  rw [if_pos ⟨by omega, fun x hx => by have := hf x hx; unfold Fits at this; omega⟩]
theorem mx_ge (a b : Int) : a ≤ mx a b ∧ b ≤ mx a b ∧ (mx a b = a ∨ mx a b = b) := by unfold mx; split <;> omega
theorem mx_eq {a b c : Int} (h1 : a ≤ c) (h2 : b ≤ c) (h3 : c = a ∨ c = b) : mx a b = c := by have := mx_ge a b; omega
theorem mx_mx (D L d s : Int) : mx (mx D (L + d)) (s + L + 1) = mx D (L + mx d (s + 1)) := by
  have m1 := mx_ge d (s + 1)
  have m2 := mx_ge D (L + d)
  have m3 := mx_ge D (L + mx d (s + 1))
  generalize mx d (s + 1) = a at m1 m3 ⊢
  generalize mx D (L + d) = b at m2 ⊢
  generalize mx D (L + a) = c at m3 ⊢
  exact mx_eq (by omega) (by omega) (by omega)
noncomputable def fin (all deep : Int) (st : List Int) (i : Int) (r : List S32) : Int × Int × Int :=
  match st with
  | [] => (i, all, deep)
  | x :: s => walkS all deep (x :: s) i r
theorem walkS_fin {all deep : Int} {st : List Int} {i : Int} {n : S32} {r : List S32} (h : ¬ (itm n < 0 ∨ wrap64 (all + itm n) > 1048576 ∨ 16 ≤ st.length)) :
    walkS all deep st i (n :: r) = fin (wrap64 (all + itm n)) (mx deep (wrap64 ((st.length : Int) + 1))) (clr (push st n)) (i + 1) r := by
  simp only [walkS, if_neg h]
  cases e : clr (push st n) with
  | nil => simp only [fin, if_true]
  | cons x s => simp only [fin, if_neg (show ¬ (x :: s = []) from List.cons_ne_nil x s)]
theorem fin_cons {all deep : Int} {st : List Int} {i : Int} {r : List S32} (h : st ≠ []) : fin all deep st i r = walkS all deep st i r := by
  cases st with
  | nil => exact absurd rfl h
  | cons x s => rfl
theorem clr_app : ∀ (k : Nat) (s st : List Int), s.length ≤ k → s ≠ [] → (clr s = [] → clr (s ++ st) = clr (decT st)) ∧ (clr s ≠ [] → clr (s ++ st) = clr s ++ st) := by
  intro k
  induction k with
  | zero =>
    intro s st hs hn
    exact absurd (List.eq_nil_of_length_eq_zero (Nat.le_zero.1 hs)) hn
  | succ k ih =>
    intro s st hs hn
    cases s with
    | nil => exact absurd rfl hn
    | cons x s =>
      rw [List.cons_append, clr_cons, clr_cons]
      by_cases e : x = 0
      · rw [if_pos e, if_pos e]
        cases s with
        | nil => exact ⟨fun _ => rfl, fun h => absurd clr_nil h⟩
        | cons y s => exact ih (dec1 y :: s) st (by simp only [List.length_cons] at hs ⊢; omega) (List.cons_ne_nil _ _)
      · rw [if_neg e, if_neg e]
        exact ⟨fun h => absurd h (List.cons_ne_nil _ _), fun _ => rfl⟩
attribute [local irreducible] itm mx walkS clr push
theorem split_walk (A DD : Int) : ∀ (l : List S32) (s st : List Int) (all all0 D deep0 i i0 : Int), st ≠ [] → 0 ≤ all0 → all0 ≤ all → all ≤ 1048576 → (st.length : Int) ≤ D → 0 ≤ deep0 → 1 ≤ i →
    walkS all (mx D ((st.length : Int) + deep0)) (s ++ st) i l = (i + (l.length : Int), A, DD) →
    ∃ (j : Nat) (b d : Int), 1 ≤ j ∧ j ≤ l.length ∧ 0 ≤ b ∧ all + b ≤ 1048576 ∧ 0 ≤ d ∧ walkS all0 deep0 s i0 l = (i0 + (j : Int), all0 + b, d) ∧
      fin (all + b) (mx D ((st.length : Int) + d)) (clr (decT st)) (i + (j : Int)) (l.drop j) = (i + (l.length : Int), A, DD) := by
  intro l
  induction l with
  | nil =>
    intro s st all all0 D deep0 i i0 hst h0 h1 h2 hD hd hi hw
    have := congrArg Prod.fst hw
    simp only [walkS, List.length_nil] at this
    omega
  | cons n r ih =>
    intro s st all all0 D deep0 i i0 hst h0 h1 h2 hD hd hi hw
    have hnf : ¬ (itm n < 0 ∨ wrap64 (all + itm n) > 1048576 ∨ 16 ≤ (s ++ st).length) := by
      intro h
      have := congrArg Prod.fst hw
      simp only [walkS, if_pos h] at this
      omega
    have hlen : (s ++ st).length = s.length + st.length := List.length_append
    have hit : 0 ≤ itm n := Int.not_lt.1 fun h => hnf (.inl h)
    have hb : itm n ≤ 1048576 := itm_le n
    have hs16 : s.length + st.length < 16 := by rw [← hlen]; exact Nat.not_le.1 fun h => hnf (.inr (.inr h))
    have hq1 : wrap64 (((s ++ st).length : Int) + 1) = (s.length : Int) + (st.length : Int) + 1 := by
      clear hnf hw
      rw [hlen, w64 (by omega) (by omega)]; omega
    have hq2 : wrap64 ((s.length : Int) + 1) = (s.length : Int) + 1 := by
      clear hnf hw hq1
      exact w64 (by omega) (by omega)
    have hw1 : wrap64 (all + itm n) = all + itm n := by
      clear hnf hw hq1 hq2
      exact w64 (by omega) (by omega)
    have hw0 : wrap64 (all0 + itm n) = all0 + itm n := by
      clear hnf hw hq1 hq2 hw1
      exact w64 (by omega) (by omega)
    rw [walkS_fin hnf] at hw
    rw [hw1] at hnf hw
    have ha : all + itm n ≤ 1048576 := Int.not_lt.1 fun h => hnf (.inr (.inl h))
    have hnf0 : ¬ (itm n < 0 ∨ wrap64 (all0 + itm n) > 1048576 ∨ 16 ≤ s.length) := by
      rw [hw0]
      clear hnf hw hq1 hq2 hw1 hw0
      omega
    rw [walkS_fin hnf0, hw0]
    clear hw0 hw1 hnf0 hnf
    have m1 := mx_ge deep0 ((s.length : Int) + 1)
    have hmm : mx (mx D ((st.length : Int) + deep0)) ((s.length : Int) + (st.length : Int) + 1) = mx D ((st.length : Int) + mx deep0 ((s.length : Int) + 1)) := mx_mx D (st.length : Int) deep0 (s.length : Int)
    rw [hq1, hmm] at hw
    rw [hq2]
    clear hq1 hq2 hmm
    have hiL : i + ((n :: r).length : Int) = (i + 1) + (r.length : Int) := by simp only [List.length_cons]; omega
    rw [hiL] at hw ⊢
    have done : clr (push s n) = [] → clr (push (s ++ st) n) = clr (decT st) →
        ∃ (j : Nat) (b d : Int), 1 ≤ j ∧ j ≤ (n :: r).length ∧ 0 ≤ b ∧ all + b ≤ 1048576 ∧ 0 ≤ d ∧ fin (all0 + itm n) (mx deep0 ((s.length : Int) + 1)) (clr (push s n)) (i0 + 1) r = (i0 + (j : Int), all0 + b, d) ∧
          fin (all + b) (mx D ((st.length : Int) + d)) (clr (decT st)) (i + (j : Int)) ((n :: r).drop j) = (i + 1 + (r.length : Int), A, DD) := by
      intro e1 e2
      rw [e2] at hw
      refine ⟨1, itm n, mx deep0 ((s.length : Int) + 1), Nat.le_refl _, by simp, hit, ha, by omega, ?_, ?_⟩
      · rw [e1]; rfl
      · exact hw
    by_cases g5 : n.f0 = 5
    · have hp1 : push (s ++ st) n = (itm n :: s) ++ st := by unfold push; rw [if_pos g5]; rfl
      have hp2 : push s n = itm n :: s := by unfold push; rw [if_pos g5]
      have hca := clr_app (s.length + 1) (itm n :: s) st (by simp) (List.cons_ne_nil _ _)
      by_cases e : clr (itm n :: s) = []
      · exact done (by rw [hp2]; exact e) (by rw [hp1]; exact hca.1 e)
      · rw [hp1, hca.2 e, fin_cons (by simp [e])] at hw
        obtain ⟨j, b, d, q1, q2, q3, q4, q5, q6, q7⟩ := ih (clr (itm n :: s)) st (all + itm n) (all0 + itm n) D (mx deep0 ((s.length : Int) + 1)) (i + 1) (i0 + 1) hst (by omega) (by omega) ha hD (by omega) (by omega) hw
        refine ⟨j + 1, itm n + b, d, by omega, by simp only [List.length_cons]; omega, by omega, by omega, q5, ?_, ?_⟩
        · rw [hp2, fin_cons e, q6, show i0 + ((j + 1 : Nat) : Int) = i0 + 1 + (j : Int) by omega, show all0 + (itm n + b) = all0 + itm n + b by omega]
        · rw [show all + (itm n + b) = all + itm n + b by omega, show i + ((j + 1 : Nat) : Int) = i + 1 + (j : Int) by omega, List.drop_succ_cons]
          exact q7
    · cases s with
      | nil =>
        have hp1 : push ([] ++ st) n = decT st := by unfold push; rw [if_neg g5]; rfl
        have hp2 : push [] n = [] := by unfold push; rw [if_neg g5]; rfl
        exact done (by rw [hp2]; exact clr_nil) (by rw [hp1])
      | cons y s =>
        have hp1 : push (y :: s ++ st) n = (dec1 y :: s) ++ st := by unfold push; rw [if_neg g5]; rfl
        have hp2 : push (y :: s) n = dec1 y :: s := by unfold push; rw [if_neg g5]; rfl
        have hca := clr_app (s.length + 1) (dec1 y :: s) st (by simp) (List.cons_ne_nil _ _)
        by_cases e : clr (dec1 y :: s) = []
        · exact done (by rw [hp2]; exact e) (by rw [hp1]; exact hca.1 e)
        · rw [hp1, hca.2 e, fin_cons (by simp [e])] at hw
          obtain ⟨j, b, d, q1, q2, q3, q4, q5, q6, q7⟩ := ih (clr (dec1 y :: s)) st (all + itm n) (all0 + itm n) D (mx deep0 (((y :: s).length : Int) + 1)) (i + 1) (i0 + 1) hst (by omega) (by omega) ha hD (by omega) (by omega) hw
          refine ⟨j + 1, itm n + b, d, by omega, by simp only [List.length_cons]; omega, by omega, by omega, q5, ?_, ?_⟩
          · rw [hp2, fin_cons e, q6, show i0 + ((j + 1 : Nat) : Int) = i0 + 1 + (j : Int) by omega, show all0 + (itm n + b) = all0 + itm n + b by omega]
          · rw [show all + (itm n + b) = all + itm n + b by omega, show i + ((j + 1 : Nat) : Int) = i + 1 + (j : Int) by omega, List.drop_succ_cons]
            exact q7
noncomputable def wI (l : List S32) : Int := (walkS 0 0 [] 0 l).2.1
noncomputable def wD (l : List S32) : Int := (walkS 0 0 [] 0 l).2.2
noncomputable def G : Int → Int → List (List S32) → Int × Int
  | a, d, [] => (a, d)
  | a, d, k :: ks => G (a + wI k) (mx d (wD k)) ks
def Arr (l : List S32) : Prop := 1 ≤ l.length ∧ tk l = (l.length : Int) ∧ 0 ≤ wI l ∧ wI l ≤ 1048576
theorem kids_walk (A DD : Int) : ∀ (m : Nat) (l : List S32) (all dd i : Int) (acc : List (List S32)), l.length ≤ 100 → (∀ n ∈ l, Ok n) → (∀ n ∈ l, Fits n) → m + 1 ≤ 1048576 → 0 ≤ all → all ≤ 1048576 → 0 ≤ dd → 1 ≤ i → acc.length + l.length ≤ 100 →
    walkS all (1 + dd) [((m + 1 : Nat) : Int)] i l = (i + (l.length : Int), A, DD) →
    ∃ ks : List (List S32), ks.length = m + 1 ∧ ks.flatten = l ∧ (∀ k ∈ ks, Arr k) ∧ A = (G all dd ks).1 ∧ DD = 1 + (G all dd ks).2 ∧ A ≤ 1048576 ∧ Ev (fun k => array_Kids.l0 k l acc) (acc ++ ks) := by
  intro m
  induction m with
  | zero =>
    intro l all dd i acc hl ok hf hm ha0 ha1 hd hi hacc hw
    have hD : mx (1 + dd) ((([((0 + 1 : Nat) : Int)] : List Int).length : Int) + 0) = 1 + dd := mx_eq (by omega) (by simp only [List.length_cons, List.length_nil]; omega) (.inl rfl)
    obtain ⟨j, b, d, q1, q2, q3, q4, q5, q6, q7⟩ := split_walk A DD l [] [((0 + 1 : Nat) : Int)] all 0 (1 + dd) 0 i 0 (List.cons_ne_nil _ _) (by omega) ha0 ha1 (by simp only [List.length_cons, List.length_nil]; omega) (by omega) hi (by rw [hD]; exact hw)
    have hclr : clr (decT [((0 + 1 : Nat) : Int)]) = [] := by
      have hd1 : dec1 ((0 + 1 : Nat) : Int) = 0 := by unfold dec1; rw [w64 (by omega) (by omega)]; omega
      show clr [dec1 ((0 + 1 : Nat) : Int)] = []
      rw [hd1, clr_cons, if_pos rfl]
      exact clr_nil
    rw [hclr] at q7
    simp only [fin, Prod.mk.injEq, List.length_cons, List.length_nil] at q7
    have hj : j = l.length := by have := q7.1; omega
    rw [Int.zero_add, Int.zero_add] at q6
    have ht : tk l = (j : Int) := congrArg Prod.fst q6
    have hI : wI l = b := congrArg (fun x => x.2.1) q6
    have hWD : wD l = d := congrArg (fun x => x.2.2) q6
    refine ⟨[l], rfl, by simp, ?_, ?_, ?_, ?_, ?_⟩
    · intro k hk
      obtain rfl := List.mem_singleton.1 hk
      exact ⟨by omega, by rw [ht, hj], by omega, by omega⟩
    · simp only [G]; rw [hI]; exact q7.2.1.symm
    · simp only [G]
      rw [hWD, ← q7.2.2]
      have := mx_ge dd d
      exact mx_eq (by omega) (by omega) (by omega)
    · omega
    · refine Ev.succ ?_
      simp only [array_Kids.l0, if_pos (show (l.length : Int) > 0 by omega)]
      refine Ev.bind (take_ev l ok (by omega)) ?_
      simp only [ht, if_pos (show (0 : Int) ≤ (j : Int) by omega), if_pos (show (j : Int) ≤ (l.length : Int) by omega), Int.toNat_natCast]
      rw [hj, List.take_length, List.drop_length, copy_some l hl hf]
      refine Ev.bind (Ev.const _) ?_
      simp only [if_pos (show acc.length < 5864062014805 by omega)]
      refine Ev.succ ?_
      simp only [array_Kids.l0, List.length_nil, if_neg (show ¬ (((0 : Nat) : Int) > 0) by decide)]
      exact Ev.const _
  | succ m ih =>
    intro l all dd i acc hl ok hf hm ha0 ha1 hd hi hacc hw
    have hD : mx (1 + dd) ((([((m + 1 + 1 : Nat) : Int)] : List Int).length : Int) + 0) = 1 + dd := mx_eq (by omega) (by simp only [List.length_cons, List.length_nil]; omega) (.inl rfl)
    obtain ⟨j, b, d, q1, q2, q3, q4, q5, q6, q7⟩ := split_walk A DD l [] [((m + 1 + 1 : Nat) : Int)] all 0 (1 + dd) 0 i 0 (List.cons_ne_nil _ _) (by omega) ha0 ha1 (by simp only [List.length_cons, List.length_nil]; omega) (by omega) hi (by rw [hD]; exact hw)
    have hclr : clr (decT [((m + 1 + 1 : Nat) : Int)]) = [((m + 1 : Nat) : Int)] := by
      have hd1 : dec1 ((m + 1 + 1 : Nat) : Int) = ((m + 1 : Nat) : Int) := by unfold dec1; rw [w64 (by omega) (by omega)]; omega
      show clr [dec1 ((m + 1 + 1 : Nat) : Int)] = _
      rw [hd1, clr_cons, if_neg (by omega)]
    rw [hclr, fin_cons (List.cons_ne_nil _ _)] at q7
    rw [Int.zero_add, Int.zero_add] at q6
    have ht : tk l = (j : Int) := congrArg Prod.fst q6
    obtain ⟨j', p1, p2, p3, p4, p5⟩ : ∃ j', 1 ≤ j' ∧ j' ≤ l.length ∧ tk l = (j' : Int) ∧ (∀ r', walkS 0 0 [] 0 (l.take j' ++ r') = walkS 0 0 [] 0 l) ∧ ∀ m, m < j' → tk (l.take m) = 0 := by
      rcases tk_cut l with h | h
      · omega
      · exact h
    obtain rfl : j' = j := by omega
    have ht2 : walkS 0 0 [] 0 (l.take j') = ((j' : Int), b, d) := by
      have := p4 []
      rw [List.append_nil] at this
      rw [this]; exact q6
    have htl : (l.take j').length = j' := by rw [List.length_take]; omega
    have hI : wI (l.take j') = b := congrArg (fun x => x.2.1) ht2
    have hWD : wD (l.take j') = d := congrArg (fun x => x.2.2) ht2
    have hdl : (l.drop j').length = l.length - j' := List.length_drop
    have hmm : mx (1 + dd) ((([((m + 1 + 1 : Nat) : Int)] : List Int).length : Int) + d) = 1 + mx dd d := by
      have := mx_ge dd d
      simp only [List.length_cons, List.length_nil]
      exact mx_eq (by omega) (by omega) (by omega)
    have hg := mx_ge dd d
    rw [hmm] at q7
    obtain ⟨ks, k1, k2, k3, k4, k5, k6, k7⟩ := ih (l.drop j') (all + b) (mx dd d) (i + (j' : Int)) (acc ++ [l.take j']) (by omega) (fun n hn => ok n (List.mem_of_mem_drop hn)) (fun n hn => hf n (List.mem_of_mem_drop hn)) (by omega) (by omega) q4 (by omega) (by omega) (by rw [List.length_append, hdl]; simp only [List.length_cons, List.length_nil]; omega)
      (by rw [q7, hdl]; simp only [Prod.mk.injEq, and_true]; omega)
    refine ⟨l.take j' :: ks, by simp only [List.length_cons]; omega, by rw [List.flatten_cons, k2, List.take_append_drop], ?_, ?_, ?_, k6, ?_⟩
    · intro k hk
      rcases List.mem_cons.1 hk with rfl | hk
      · refine ⟨by omega, ?_, by omega, by omega⟩
        rw [htl]
        exact congrArg Prod.fst ht2
      · exact k3 k hk
    · simp only [G]; rw [hI, hWD]; exact k4
    · simp only [G]; rw [hI, hWD]; exact k5
    · refine Ev.succ ?_
      simp only [array_Kids.l0, if_pos (show (l.length : Int) > 0 by omega)]
      refine Ev.bind (take_ev l ok (by omega)) ?_
      simp only [ht, if_pos (show (0 : Int) ≤ (j' : Int) by omega), if_pos (show (j' : Int) ≤ (l.length : Int) by omega), Int.toNat_natCast]
      rw [copy_some (l.take j') (by omega) (fun n hn => hf n (List.mem_of_mem_take hn))]
      refine Ev.bind (Ev.const _) ?_
      simp only [if_pos (show acc.length < 5864062014805 by omega)]
      rw [List.append_assoc] at k7
      exact k7
theorem small_ev : Ev (fun k => decklelaw10_small.f k) true :=
  ⟨200, fun k hk => at_rounds (g := fun k => decklelaw10_small.f k) (fun k => decklelaw10_small.mono k) hk (by decide +kernel)⟩
namespace Sh
theorem w64 {n : Int} (h1 : -9223372036854775808 ≤ n) (h2 : n ≤ 9223372036854775807) : wrap64 n = n := by unfold wrap64; omega
theorem rd_at (b : List Int) (m : Nat) (h : m < b.length) : rd b (m : Int) = b[m] := by
  unfold rd
  rw [List.getD_eq_getElem?_getD, Int.toNat_natCast, List.getElem?_eq_getElem h]; rfl
theorem up64 (m : Nat) (h : m ≤ 1000000) : wrap64 ((m : Int) + 1) = ((m + 1 : Nat) : Int) := by rw [w64 (by omega) (by omega)]; omega
def bad (x : Int) : Bool := decide (x < 0 ∨ 1048576 < x)
def isz (x : Int) : Bool := decide (0 = x)
def P : List Int → Int
  | [] => 1
  | x :: r => x * P r
def cnt2 (s : List Int) : Int × Bool := if s.any bad = true then (0, false) else if s.any isz = true then (0, true) else if P s ≤ 1048576 then (P s, true) else (0, false)
def cnt (s : List Int) : Int × Bool := if s.length > 16 then (0, false) else cnt2 s
theorem one_f (a : Int) : shape_Count_1.f a = some (bad a) := by
  unfold shape_Count_1.f bad
  by_cases c : a < 0
  · rw [if_pos c]; simp [c]
  · rw [if_neg c]; simp [c]
theorem ifunc_loop (s : List Int) (hl : s.length ≤ 1000) (d : Nat) : ∀ (K m : Nat), m ≤ s.length → s.length - m = d → d + 1 ≤ K → ∃ r : Int, slices_IndexFunc_int_int.l0 K s (s.length : Int) (m : Int) = some r ∧ decide (r ≥ 0) = (s.drop m).any bad := by
  induction d with
  | zero =>
    intro K m h1 h2 h3
    obtain ⟨K, rfl⟩ : ∃ q, K = q + 1 := ⟨K - 1, by omega⟩
    refine ⟨-1, ?_, ?_⟩
    · simp only [slices_IndexFunc_int_int.l0]; rw [if_neg (by omega)]
    · rw [List.drop_eq_nil_of_le (by omega)]; rfl
  | succ d ih =>
    intro K m h1 h2 h3
    obtain ⟨K, rfl⟩ : ∃ q, K = q + 1 := ⟨K - 1, by omega⟩
    have c : m < s.length := by omega
    rw [List.drop_eq_getElem_cons c, List.any_cons]
    simp only [slices_IndexFunc_int_int.l0]
    rw [if_pos (by omega), if_pos (by omega), if_pos (by omega), rd_at s m c, one_f]
    simp only [Option.bind_some]
    by_cases g : bad s[m] = true
    · rw [if_pos g]
      exact ⟨m, rfl, by rw [g]; simp⟩
    · rw [if_neg g, up64 m (by omega)]
      obtain ⟨r, e1, e2⟩ := ih K (m + 1) (by omega) (by omega) (by omega)
      exact ⟨r, e1, by rw [e2, Bool.eq_false_iff.2 g]; rfl⟩
theorem cfunc_eq (s : List Int) (hl : s.length ≤ 1000) (K : Nat) (hK : s.length + 1 ≤ K) : slices_ContainsFunc_int_int.f K s = some (s.any bad) := by
  obtain ⟨r, e1, e2⟩ := ifunc_loop s hl s.length K 0 (by omega) (by omega) hK
  unfold slices_ContainsFunc_int_int.f slices_IndexFunc_int_int.f
  rw [show (0 : Int) = ((0 : Nat) : Int) from rfl, e1]
  rw [List.drop_zero] at e2
  simp only [Option.bind_some]
  rw [← e2]; rfl
theorem index_loop (s : List Int) (hl : s.length ≤ 1000) (d : Nat) : ∀ (K m : Nat), m ≤ s.length → s.length - m = d → d + 1 ≤ K → ∃ r : Int, slices_Index_int_int.l0 K s 0 (s.length : Int) (m : Int) = some r ∧ decide (r ≥ 0) = (s.drop m).any isz := by
  induction d with
  | zero =>
    intro K m h1 h2 h3
    obtain ⟨K, rfl⟩ : ∃ q, K = q + 1 := ⟨K - 1, by omega⟩
    refine ⟨-1, ?_, ?_⟩
    · simp only [slices_Index_int_int.l0]; rw [if_neg (by omega)]
    · rw [List.drop_eq_nil_of_le (by omega)]; rfl
  | succ d ih =>
    intro K m h1 h2 h3
    obtain ⟨K, rfl⟩ : ∃ q, K = q + 1 := ⟨K - 1, by omega⟩
    have c : m < s.length := by omega
    rw [List.drop_eq_getElem_cons c, List.any_cons]
    simp only [slices_Index_int_int.l0]
    rw [if_pos (by omega), if_pos (by omega), if_pos (by omega), rd_at s m c]
    by_cases g : 0 = s[m]
    · rw [if_pos g]
      exact ⟨m, rfl, by unfold isz; rw [decide_eq_true g]; simp⟩
    · rw [if_neg g, up64 m (by omega)]
      obtain ⟨r, e1, e2⟩ := ih K (m + 1) (by omega) (by omega) (by omega)
      exact ⟨r, e1, by unfold isz at e2 ⊢; rw [e2, decide_eq_false g]; rfl⟩
theorem cont_eq (s : List Int) (hl : s.length ≤ 1000) (K : Nat) (hK : s.length + 1 ≤ K) : slices_Contains_int_int.f K s 0 = some (s.any isz) := by
  obtain ⟨r, e1, e2⟩ := index_loop s hl s.length K 0 (by omega) (by omega) hK
  unfold slices_Contains_int_int.f slices_Index_int_int.f
  rw [show slices_Index_int_int.l0 K s 0 (s.length : Int) 0 = some r from e1]
  rw [List.drop_zero] at e2
  simp only [Option.bind_some]
  rw [← e2]
def good (s : List Int) : Prop := ∀ x ∈ s, 1 ≤ x ∧ x ≤ 1048576
theorem good_of (s : List Int) (h1 : ¬ s.any bad = true) (h2 : ¬ s.any isz = true) : good s := by
  intro x hx
  have a1 : ¬ bad x = true := fun h => h1 (List.any_eq_true.2 ⟨x, hx, h⟩)
  have a2 : ¬ isz x = true := fun h => h2 (List.any_eq_true.2 ⟨x, hx, h⟩)
  unfold bad at a1; unfold isz at a2
  simp only [decide_eq_true_eq] at a1 a2
  omega
theorem P_pos : ∀ (s : List Int), good s → 1 ≤ P s
  | [], _ => by unfold P; omega
  | x :: r, h => by
    have h1 := h x (by simp)
    have h2 := P_pos r (fun y hy => h y (by simp [hy]))
    unfold P
    have := Int.mul_le_mul h1.1 h2 (by omega) (by omega)
    omega
theorem good_drop {s : List Int} (h : good s) (m : Nat) : good (s.drop m) := fun x hx => h x (List.mem_of_mem_drop hx)
theorem mul_small {a x : Int} (h1 : 1 ≤ a) (h2 : a ≤ 1048576) (h3 : 1 ≤ x) (h4 : x ≤ 1048576) : 1 ≤ a * x ∧ a * x ≤ 1099511627776 := by
  have := Int.mul_le_mul h1 h3 (by omega) (by omega)
  have := Int.mul_le_mul h2 h4 (by omega) (by omega)
  omega
theorem count_loop (s : List Int) (hs : good s) (hl : s.length ≤ 1000) (d : Nat) : ∀ (K m : Nat) (acc : Int), m ≤ s.length → s.length - m = d → d + 1 ≤ K → 1 ≤ acc → acc ≤ 1048576 →
    shape_Count.l0 K acc s (s.length : Int) (m : Int) = some (if acc * P (s.drop m) ≤ 1048576 then (acc * P (s.drop m), true) else (0, false)) := by
  induction d with
  | zero =>
    intro K m acc h1 h2 h3 h4 h5
    obtain ⟨K, rfl⟩ : ∃ q, K = q + 1 := ⟨K - 1, by omega⟩
    simp only [shape_Count.l0]
    rw [if_neg (by omega), List.drop_eq_nil_of_le (by omega), show acc * P [] = acc from by unfold P; omega, if_pos h5]
  | succ d ih =>
    intro K m acc h1 h2 h3 h4 h5
    obtain ⟨K, rfl⟩ : ∃ q, K = q + 1 := ⟨K - 1, by omega⟩
    have c : m < s.length := by omega
    have hx := hs _ (List.getElem_mem c)
    have hm := mul_small h4 h5 hx.1 hx.2
    have hp := P_pos (s.drop (m + 1)) (good_drop hs _)
    simp only [shape_Count.l0]
    rw [if_pos (by omega), if_pos (by omega), if_pos (by omega), rd_at s m c, w64 (n := acc * s[m]) (by omega) (by omega), one_f, List.drop_eq_getElem_cons c, up64 m (by omega), show acc * P (s[m] :: s.drop (m + 1)) = acc * s[m] * P (s.drop (m + 1)) by rw [P, Int.mul_assoc]]
    simp only [Option.bind_some]
    by_cases g : acc * s[m] ≤ 1048576
    · rw [if_neg (by unfold bad; simp only [decide_eq_true_eq]; omega), ih K (m + 1) _ (by omega) (by omega) (by omega) hm.1 g]
    · rw [if_pos (by unfold bad; simp only [decide_eq_true_eq]; omega)]
      have := Int.mul_le_mul (show acc * s[m] ≤ acc * s[m] by omega) hp (by omega) (by omega)
      rw [if_neg (by omega)]
theorem count_eq (s : List Int) (K : Nat) (hK : 40 ≤ K) : shape_Count.f K s = some (cnt s) := by
  unfold shape_Count.f cnt
  obtain ⟨K, rfl⟩ : ∃ q, K = q + 1 := ⟨K - 1, by omega⟩
  by_cases c : s.length > 16
  · rw [if_pos (by omega), if_pos c]
    simp only [shape_Count.j0]
    rw [if_pos trivial]
  · rw [if_neg (by omega), if_neg c, cfunc_eq s (by omega) _ (by omega)]
    simp only [Option.bind_some, shape_Count.j0]
    unfold cnt2
    by_cases h1 : s.any bad = true
    · rw [if_pos h1, if_pos h1]
    · rw [if_neg h1, if_neg h1, cont_eq s (by omega) _ (by omega)]
      simp only [Option.bind_some]
      by_cases h2 : s.any isz = true
      · rw [if_pos h2, if_pos h2]
      · rw [if_neg h2, if_neg h2]
        have := count_loop s (good_of s h1 h2) (by omega) s.length K 0 1 (by omega) (by omega) (by omega) (by omega) (by omega)
        rw [List.drop_zero, Int.one_mul] at this
        exact this
theorem take_snoc {l : List Int} {m : Nat} (h : m < l.length) : l.take (m + 1) = l.take m ++ [l[m]] := by simp
theorem rcount_loop1 (s : List Int) (hs : good s) (hl : s.length ≤ 1000) (d : Nat) : ∀ (K m : Nat) (acc : Int), m ≤ s.length → s.length - m = d → d + 1 ≤ K → 1 ≤ acc → acc ≤ 1048576 →
    deckleref09_Count.l1 K s acc (m : Int) = some (if acc * P (s.drop m) ≤ 1048576 then (acc * P (s.drop m), true) else (0, false)) := by
  induction d with
  | zero =>
    intro K m acc h1 h2 h3 h4 h5
    obtain ⟨K, rfl⟩ : ∃ q, K = q + 1 := ⟨K - 1, by omega⟩
    simp only [deckleref09_Count.l1]
    rw [if_neg (by omega), List.drop_eq_nil_of_le (by omega), show acc * P [] = acc from by unfold P; omega, if_pos h5]
  | succ d ih =>
    intro K m acc h1 h2 h3 h4 h5
    obtain ⟨K, rfl⟩ : ∃ q, K = q + 1 := ⟨K - 1, by omega⟩
    have c : m < s.length := by omega
    have hx := hs _ (List.getElem_mem c)
    have hm := mul_small h4 h5 hx.1 hx.2
    have hp := P_pos (s.drop (m + 1)) (good_drop hs _)
    simp only [deckleref09_Count.l1]
    rw [if_pos (by omega), if_pos (by omega), rd_at s m c, w64 (n := acc * s[m]) (by omega) (by omega), List.drop_eq_getElem_cons c, up64 m (by omega), show acc * P (s[m] :: s.drop (m + 1)) = acc * s[m] * P (s.drop (m + 1)) by rw [P, Int.mul_assoc]]
    by_cases g : acc * s[m] ≤ 1048576
    · rw [if_neg (by omega), ih K (m + 1) _ (by omega) (by omega) (by omega) hm.1 g]
    · rw [if_pos (by omega)]
      have := Int.mul_le_mul (show acc * s[m] ≤ acc * s[m] by omega) hp (by omega) (by omega)
      rw [if_neg (by omega)]
theorem rcount_loop0 (s : List Int) (hl : s.length ≤ 16) (d : Nat) : ∀ (K m : Nat) (n : Int), m ≤ s.length → s.length - m = d → 2 * d + 30 ≤ K → (s.take m).any bad = false → n = (if (s.take m).any isz = true then 0 else 1) →
    deckleref09_Count.l0 K s n (m : Int) = some (cnt2 s) := by
  induction d with
  | zero =>
    intro K m n h1 h2 h3 h4 h5
    obtain ⟨K, rfl⟩ : ∃ q, K = q + 1 := ⟨K - 1, by omega⟩
    rw [List.take_of_length_le (by omega)] at h4 h5
    simp only [deckleref09_Count.l0]
    unfold cnt2
    rw [if_neg (by omega), if_neg (show ¬ s.any bad = true by simp [h4])]
    by_cases z : s.any isz = true
    · rw [if_pos z] at h5
      rw [if_pos h5, if_pos z]
    · rw [if_neg z] at h5
      rw [if_neg (by omega), if_neg z, h5]
      have := rcount_loop1 s (good_of s (by simp [h4]) z) (by omega) s.length K 0 1 (by omega) (by omega) (by omega) (by omega) (by omega)
      rw [List.drop_zero, Int.one_mul] at this
      exact this
  | succ d ih =>
    intro K m n h1 h2 h3 h4 h5
    obtain ⟨K, rfl⟩ : ∃ q, K = q + 2 := ⟨K - 2, by omega⟩
    have c : m < s.length := by omega
    simp only [deckleref09_Count.l0]
    rw [if_pos (by omega), if_pos (by omega), rd_at s m c]
    by_cases g : bad s[m] = true
    · have hb : s.any bad = true := List.any_eq_true.2 ⟨_, List.getElem_mem c, g⟩
      have e : cnt2 s = (0, false) := by unfold cnt2; rw [if_pos hb]
      unfold bad at g
      simp only [decide_eq_true_eq] at g
      have hj : ∀ x, deckleref09_Count.j1 (K + 1) s n x true = some (cnt2 s) := by
        intro x; simp only [deckleref09_Count.j1]; rw [if_pos trivial, e]
      by_cases g2 : s[m] < 0
      · rw [if_pos g2]; exact hj _
      · rw [if_neg g2, decide_eq_true (by omega)]; exact hj _
    · have hg := g
      unfold bad at g
      simp only [decide_eq_true_eq] at g
      rw [if_neg (by omega), decide_eq_false (by omega)]
      simp only [deckleref09_Count.j1]
      rw [if_neg (by simp), if_pos (by omega), if_pos (by omega), rd_at s m c, up64 m (by omega)]
      have hb : (s.take (m + 1)).any bad = false := by
        rw [take_snoc c, List.any_append, h4]
        simp [hg]
      by_cases z : s[m] = 0
      · rw [if_pos z]
        refine ih K (m + 1) 0 (by omega) (by omega) (by omega) hb ?_
        rw [take_snoc c, List.any_append, if_pos (by simp [isz, z])]
      · rw [if_neg z]
        refine ih K (m + 1) n (by omega) (by omega) (by omega) hb ?_
        rw [take_snoc c, List.any_append, h5]
        have : [s[m]].any isz = false := by simp [isz]; omega
        rw [this, Bool.or_false]
theorem rcount_eq (s : List Int) (K : Nat) (hK : 70 ≤ K) : deckleref09_Count.f K s = some (cnt s) := by
  unfold deckleref09_Count.f cnt
  by_cases c : s.length > 16
  · rw [if_pos (by omega), if_pos c]
  · rw [if_neg (by omega), if_neg c]
    exact rcount_loop0 s (by omega) s.length K 0 1 (by omega) (by omega) (by omega) (by simp) (by simp)
end Sh
theorem cnt_ev (s : List Int) : Ev (fun k => shape_Count.f k s) (Sh.cnt s) := ⟨40, fun k hk => Sh.count_eq s k hk⟩
theorem rcnt_ev (s : List Int) : Ev (fun k => deckleref09_Count.f k s) (Sh.cnt s) := ⟨70, fun k hk => Sh.rcount_eq s k hk⟩
def In64 (v : Int) : Prop := -9223372036854775808 ≤ v ∧ v ≤ 9223372036854775807
theorem andNot1 (v : Int) (h : In64 v) : ((Go.bits .andNot .i64 v 1) == 0) = (v == 0 || v == 1) := by
  obtain ⟨h1, h2⟩ := h
  have e : Go.bits .andNot .i64 v 1 = IntKind.i64.wrap (((v % 18446744073709551616).toNat / 2 * 2 : Nat) : Int) := by
    show IntKind.i64.wrap ((BitVec.ofInt 64 v &&& ~~~BitVec.ofInt 64 ((1 : Nat) : Int)).toNat : Int) = _
    rw [BitVec.toNat_and, BitVec.toNat_not, ofInt_u64 1 (by omega), BitVec.toNat_ofInt]
    have e1 : 2 ^ 64 - 1 - 1 = 18446744073709551614 := by decide
    rw [e1, nat_hi64_1, Nat.mod_eq_of_lt (by omega)]
    rfl
  rw [e]
  have e2 : IntKind.i64.wrap (((v % 18446744073709551616).toNat / 2 * 2 : Nat) : Int) = wrap64 (((v % 18446744073709551616).toNat / 2 * 2 : Nat) : Int) := i64_w _
  rw [e2]
  by_cases g : v = 0 ∨ v = 1
  · have z : wrap64 (((v % 18446744073709551616).toNat / 2 * 2 : Nat) : Int) = 0 := by
      unfold wrap64
      rcases g with rfl | rfl <;> omega
    rw [z]
    rcases g with rfl | rfl <;> rfl
  · have z : wrap64 (((v % 18446744073709551616).toNat / 2 * 2 : Nat) : Int) ≠ 0 := by
      unfold wrap64
      omega
    rw [beq_eq_false_iff_ne.mpr z, beq_eq_false_iff_ne.mpr (fun h => g (.inl h)), beq_eq_false_iff_ne.mpr (fun h => g (.inr h))]
    rfl
def okI (a v : Int) : Bool := if a = 1 then (v == 0 || v == 1) else if a = 2 then true else if a = 3 then decide (0 ≤ v ∧ v ≤ 1114111 ∧ ¬ (55296 ≤ v ∧ v ≤ 57343)) else false
theorem valid_val (a : Int) : Ev (fun k => utf8_ValidRune.f k a) (decide (0 ≤ a ∧ a ≤ 1114111 ∧ ¬ (55296 ≤ a ∧ a ≤ 57343))) := by
  by_cases h : 0 ≤ a
  · simp only [utf8_ValidRune.f, if_pos h]
    refine Ev.succ ?_
    by_cases h2 : a < 55296
    · rw [decide_eq_true (show 0 ≤ a ∧ a ≤ 1114111 ∧ ¬ (55296 ≤ a ∧ a ≤ 57343) by omega)]
      simp only [utf8_ValidRune.j0, decide_eq_true h2, if_true]
      exact Ev.const _
    · simp only [utf8_ValidRune.j0, decide_eq_false h2, Bool.false_eq_true, if_false]
      by_cases h3 : 57343 < a
      · by_cases h4 : a ≤ 1114111
        · rw [decide_eq_true (show 0 ≤ a ∧ a ≤ 1114111 ∧ ¬ (55296 ≤ a ∧ a ≤ 57343) by omega)]
          simp only [if_pos h3, if_pos h4]; exact Ev.const _
        · rw [decide_eq_false (show ¬ (0 ≤ a ∧ a ≤ 1114111 ∧ ¬ (55296 ≤ a ∧ a ≤ 57343)) by omega)]
          simp only [if_pos h3, if_neg h4]; exact Ev.const _
      · rw [decide_eq_false (show ¬ (0 ≤ a ∧ a ≤ 1114111 ∧ ¬ (55296 ≤ a ∧ a ≤ 57343)) by omega)]
        simp only [if_neg h3]; exact Ev.const _
  · simp only [utf8_ValidRune.f, if_neg h]
    refine Ev.succ ?_
    rw [decide_eq_false (show ¬ (0 ≤ a ∧ a ≤ 1114111 ∧ ¬ (55296 ≤ a ∧ a ≤ 57343)) by omega)]
    simp only [utf8_ValidRune.j0, Bool.false_eq_true, if_false, if_neg (show ¬ 57343 < a by omega)]
    exact Ev.const _
theorem fits_val (a v : Int) (hv : In64 v) : Ev (fun k => array_fits.f k a v) (okI a v) := by
  unfold okI
  by_cases h1 : a = 1
  · simp only [array_fits.f, if_pos h1, andNot1 v hv]; exact Ev.const _
  · by_cases h2 : a = 2
    · simp only [array_fits.f, if_neg h1, if_pos h2]; exact Ev.const _
    · by_cases h3 : a = 3
      · by_cases h4 : v = wrap64 (wrap32 v)
        · have e : wrap32 v = v := by
            have : wrap64 (wrap32 v) = wrap32 v := by unfold wrap64 wrap32; omega
            omega
          simp only [array_fits.f, if_neg h1, if_neg h2, if_pos h3, if_pos h4]
          simp only [e]
          exact Ev.bind (valid_val v) (Ev.const _)
        · simp only [array_fits.f, if_neg h1, if_neg h2, if_pos h3, if_neg h4]
          rw [decide_eq_false (show ¬ (0 ≤ v ∧ v ≤ 1114111 ∧ ¬ (55296 ≤ v ∧ v ≤ 57343)) by
            intro g
            apply h4
            unfold wrap64 wrap32; omega)]
          exact Ev.const _
      · simp only [array_fits.f, if_neg h1, if_neg h2, if_neg h3]; exact Ev.const _
theorem wrongs_val (l : List Int) (a : Int) (hl : l.length ≤ 1099511627776) (hr : ∀ v ∈ l, In64 v) : ∀ d i, i ≤ l.length → l.length - i = d → Ev (fun k => array_wrongs_int.l0 k a l (l.length : Int) (i : Int)) (!(l.drop i).all (okI a)) := by
  intro d
  induction d with
  | zero =>
    intro i h1 h2
    rw [List.drop_eq_nil_of_le (by omega)]
    refine Ev.succ ?_
    simp only [array_wrongs_int.l0, if_neg (show ¬ ((i : Int) < (l.length : Int)) by omega)]
    exact Ev.const _
  | succ d ih =>
    intro i h1 h2
    have hi : i < l.length := by omega
    have ht := fits_val a l[i] (hr _ (List.getElem_mem _))
    have hv := ih (i + 1) (by omega) (by omega)
    rw [List.drop_eq_getElem_cons hi, List.all_cons]
    refine Ev.succ ?_
    simp only [array_wrongs_int.l0, if_pos (show ((i : Int) < (l.length : Int)) by omega), if_pos (show (0 : Int) ≤ (i : Int) by omega), array_items_1.f, ix hi hl, rd_at l i hi]
    refine Ev.bind (Ev.bind ht (Ev.const _)) ?_
    cases okI a l[i] with
    | true => exact hv
    | false => exact Ev.const _
noncomputable def dr (y : S41) : Bool := open Classical in if h : ∃ v, Ev (fun k => decimal_Right.f k y.f0 y.f1) v then h.choose else false
theorem dr_ev (y : S41) (h : OkD y) : Ev (fun k => decimal_Right.f k y.f0 y.f1) (dr y) := by
  have e := decright_ev y h
  unfold dr
  rw [dif_pos e]
  exact e.choose_spec
theorem norm_same : ∀ (k : Nat) (x e : Int), deckleref06_Norm.l0 k x e = decimal_Norm.l0 k x e := by
  intro k
  induction k with
  | zero => intro x e; rfl
  | succ k ih => intro x e; simp only [deckleref06_Norm.l0, decimal_Norm.l0, ih]
theorem dright_same (k : Nat) (x e : Int) : deckleref06_Right.f k x e = decimal_Right.f k x e := by
  simp only [deckleref06_Right.f, decimal_Right.f, deckleref06_Norm.f, decimal_Norm.f, norm_same]
theorem rdD_at (b : List S41) (m : Nat) (h : m < b.length) : rd_T41 b (m : Int) = b[m] := by
  unfold rd_T41
  rw [List.getD_eq_getElem?_getD, Int.toNat_natCast, List.getElem?_eq_getElem h]; rfl
theorem decs_val (l : List S41) (ok : ∀ y ∈ l, OkD y) (hl : l.length ≤ 1099511627776) : ∀ d i, i ≤ l.length → l.length - i = d → Ev (fun k => api_Dec_55.l0 k l (l.length : Int) (i : Int)) (!(l.drop i).all dr) := by
  intro d
  induction d with
  | zero =>
    intro i h1 h2
    rw [List.drop_eq_nil_of_le (by omega)]
    refine Ev.succ ?_
    simp only [api_Dec_55.l0, if_neg (show ¬ ((i : Int) < (l.length : Int)) by omega)]
    exact Ev.const _
  | succ d ih =>
    intro i h1 h2
    have hi : i < l.length := by omega
    have ht := dr_ev l[i] (ok _ (List.getElem_mem _))
    have hv := ih (i + 1) (by omega) (by omega)
    rw [List.drop_eq_getElem_cons hi, List.all_cons]
    refine Ev.succ ?_
    simp only [api_Dec_55.l0, if_pos (show ((i : Int) < (l.length : Int)) by omega), if_pos (show (0 : Int) ≤ (i : Int) by omega), ix hi hl, rdD_at l i hi]
    refine Ev.bind ht ?_
    cases dr l[i] with
    | true => exact hv
    | false => exact Ev.const _
noncomputable def gd (x5 x6 a : Int) (c : List Int) (e : List S41) : Bool := if (c.length : Int) = x5 then (if (e.length : Int) = x6 then (c.all (okI a) && e.all dr) else false) else false
theorem items1_val (x3 x5 x6 a a' : Int) (b c : List Int) (e : List S41) (ok : ∀ y ∈ e, OkD y) (hr : ∀ v ∈ c, In64 v) (hc : c.length ≤ 1099511627776) (he : e.length ≤ 1099511627776) :
    Ev (fun k => array_items.j1 k x3 x5 x6 a a' b c e) (if gd x5 x6 a c e = true then x3 else -1) := by
  have ht := wrongs_val c a hc hr c.length 0 (by omega) (by omega)
  have hs := decs_val e ok he e.length 0 (by omega) (by omega)
  rw [List.drop_zero] at ht hs
  unfold gd
  refine Ev.succ ?_
  by_cases g1 : (c.length : Int) = x5
  · by_cases g2 : (e.length : Int) = x6
    · simp only [array_items.j1, if_pos g1, if_pos g2, array_wrongs_int.f, api_Dec_55.f]
      refine Ev.bind ht ?_
      cases c.all (okI a) with
      | false => exact Ev.const _
      | true =>
        refine Ev.bind hs ?_
        cases e.all dr with
        | false => exact Ev.const _
        | true => exact Ev.const _
    · simp only [array_items.j1, if_pos g1, if_neg g2]; exact Ev.const _
  · simp only [array_items.j1, if_neg g1]; exact Ev.const _
noncomputable def gdK (a x3 : Int) (c : List Int) (e : List S41) : Bool := if a = 1 ∨ a = 2 ∨ a = 3 then gd x3 0 a c e else if a = 4 then gd 0 x3 a c e else if a = 5 then gd 0 0 a c e else false
def Ok2 (n : S32) : Prop := Ok n ∧ (∀ v ∈ n.f2, In64 v) ∧ n.f2.length ≤ 300 ∧ n.f3.length ≤ 300
theorem items_val (n : S32) (ok : Ok2 n) : Ev (fun k => array_items.f k n.f0 n.f1 n.f2 n.f3) (if (Sh.cnt n.f1).2 = true then (if gdK n.f0 (Sh.cnt n.f1).1 n.f2 n.f3 = true then (Sh.cnt n.f1).1 else -1) else -1) := by
  have hc := cnt_ev n.f1
  revert hc
  generalize Sh.cnt n.f1 = x
  intro hc
  obtain ⟨ok1, ok2, ok3, ok4⟩ := ok
  simp only [array_items.f]
  refine Ev.bind hc ?_
  cases x.2 with
  | false => exact Ev.const _
  | true =>
    simp only [if_true]
    unfold gdK
    by_cases g1 : n.f0 = 1
    · simp only [if_pos g1, if_pos (show n.f0 = 1 ∨ n.f0 = 2 ∨ n.f0 = 3 from .inl g1), beq_iff_eq.mpr g1]
      exact Ev.succ (by simp only [array_items.j0, if_true]; exact items1_val _ _ _ _ _ _ _ _ ok1 ok2 (by omega) (by omega))
    · by_cases g2 : n.f0 = 2
      · simp only [if_neg g1, if_pos g2, if_pos (show n.f0 = 1 ∨ n.f0 = 2 ∨ n.f0 = 3 from .inr (.inl g2)), beq_iff_eq.mpr g2]
        exact Ev.succ (by simp only [array_items.j0, if_true]; exact items1_val _ _ _ _ _ _ _ _ ok1 ok2 (by omega) (by omega))
      · by_cases g3 : n.f0 = 3
        · simp only [if_neg g1, if_neg g2, if_pos (show n.f0 = 1 ∨ n.f0 = 2 ∨ n.f0 = 3 from .inr (.inr g3)), beq_iff_eq.mpr g3]
          exact Ev.succ (by simp only [array_items.j0, if_true]; exact items1_val _ _ _ _ _ _ _ _ ok1 ok2 (by omega) (by omega))
        · simp only [if_neg g1, if_neg g2, if_neg (show ¬ (n.f0 = 1 ∨ n.f0 = 2 ∨ n.f0 = 3) by omega), beq_eq_false_iff_ne.mpr g3]
          refine Ev.succ ?_
          simp only [array_items.j0, Bool.false_eq_true, if_false]
          by_cases g4 : n.f0 = 4
          · simp only [if_pos g4]; exact items1_val _ _ _ _ _ _ _ _ ok1 ok2 (by omega) (by omega)
          · by_cases g5 : n.f0 = 5
            · simp only [if_neg g4, if_pos g5]; exact items1_val _ _ _ _ _ _ _ _ ok1 ok2 (by omega) (by omega)
            · simp only [if_neg g4, if_neg g5]; exact Ev.const _
theorem itm_val (n : S32) (ok : Ok2 n) : itm n = if (Sh.cnt n.f1).2 = true then (if gdK n.f0 (Sh.cnt n.f1).1 n.f2 n.f3 = true then (Sh.cnt n.f1).1 else -1) else -1 :=
  Ev.uniq (itm_said n ok.1).1 (items_val n ok)
theorem cnt_pos0 (s : List Int) : 0 ≤ (Sh.cnt s).1 := by
  obtain ⟨c, b, h, h0, _⟩ := count_ev s
  have := Ev.uniq h (cnt_ev s)
  rw [← this]; exact h0
theorem rdecs_val (x4 a : Int) (b c : List Int) (l : List S41) (ok : ∀ y ∈ l, OkD y) (hl : l.length ≤ 1099511627776) : ∀ d i, i ≤ l.length → l.length - i = d → Ev (fun k => deckleref10_right.l1 k x4 (l.length : Int) (i : Int) a b c l) (if (l.drop i).all dr = true then (x4, true) else (0, false)) := by
  intro d
  induction d with
  | zero =>
    intro i h1 h2
    rw [List.drop_eq_nil_of_le (by omega)]
    refine Ev.succ ?_
    simp only [deckleref10_right.l1, if_neg (show ¬ ((i : Int) < (l.length : Int)) by omega)]
    exact Ev.const _
  | succ d ih =>
    intro i h1 h2
    have hi : i < l.length := by omega
    have ht := dr_ev l[i] (ok _ (List.getElem_mem _))
    have hv := ih (i + 1) (by omega) (by omega)
    rw [List.drop_eq_getElem_cons hi, List.all_cons]
    refine Ev.succ ?_
    simp only [deckleref10_right.l1, if_pos (show ((i : Int) < (l.length : Int)) by omega), if_pos (show (0 : Int) ≤ (i : Int) by omega), ix hi hl, rdD_at l i hi, dright_same]
    refine Ev.bind ht ?_
    cases dr l[i] with
    | true => exact hv
    | false => exact Ev.const _
theorem rints_val (x4 x7 a : Int) (b c : List Int) (e : List S41) (R : Int × Bool) (ha : a = 1 ∨ a = 2 ∨ a = 3) (hl : c.length ≤ 1099511627776) (hR : Ev (fun k => deckleref10_right.l1 k x4 x7 0 a b c e) R) :
    ∀ d i, i ≤ c.length → c.length - i = d → Ev (fun k => deckleref10_right.l0 k x4 (c.length : Int) x7 (i : Int) a b c e) (if (c.drop i).all (okI a) = true then R else (0, false)) := by
  intro d
  induction d with
  | zero =>
    intro i h1 h2
    rw [List.drop_eq_nil_of_le (by omega)]
    refine Ev.succ ?_
    simp only [deckleref10_right.l0, if_neg (show ¬ ((i : Int) < (c.length : Int)) by omega)]
    exact hR
  | succ d ih =>
    intro i h1 h2
    have hi : i < c.length := by omega
    have hv := ih (i + 1) (by omega) (by omega)
    rw [List.drop_eq_getElem_cons hi, List.all_cons]
    refine Ev.succ ?_
    simp only [deckleref10_right.l0, if_pos (show ((i : Int) < (c.length : Int)) by omega), if_pos (show (0 : Int) ≤ (i : Int) by omega), ix hi hl, rd_at c i hi]
    generalize c[i] = v
    have go : okI a v = true → Ev (fun k => deckleref10_right.l0 k x4 (c.length : Int) x7 ((i + 1 : Nat) : Int) a b c e) (if (okI a v && (c.drop (i + 1)).all (okI a)) = true then R else (0, false)) := by
      intro h; rw [h]; exact hv
    have no : okI a v = false → Ev (fun _ : Nat => some ((0, false) : Int × Bool)) (if (okI a v && (c.drop (i + 1)).all (okI a)) = true then R else (0, false)) := by
      intro h; rw [h]; exact Ev.const _
    clear hv ih hR
    rcases ha with rfl | rfl | rfl
    · have n3 : ((1 : Int) = 3) = False := by decide
      by_cases h0 : v = 0
      · simp only [if_pos h0, n3, if_false, if_true]
        exact go (by rw [h0]; rfl)
      · by_cases h1 : v = 1
        · simp only [if_neg h0, if_pos h1, n3, if_false, if_true]
          exact go (by rw [h1]; rfl)
        · simp only [if_neg h0, if_neg h1, if_true]
          exact no (by simp [okI, h0, h1])
    · have n1 : ((2 : Int) = 1) = False := by decide
      have n3 : ((2 : Int) = 3) = False := by decide
      simp only [n1, n3, if_false]
      exact go rfl
    · have n1 : ((3 : Int) = 1) = False := by decide
      have ho : okI 3 v = decide (0 ≤ v ∧ v ≤ 1114111 ∧ ¬ (55296 ≤ v ∧ v ≤ 57343)) := rfl
      simp only [n1, if_false, if_true]
      by_cases h1 : v < 0
      · simp only [if_pos h1]; exact no (by rw [ho]; exact decide_eq_false (by omega))
      · by_cases h2 : v > 1114111
        · simp only [if_neg h1, if_pos h2]; exact no (by rw [ho]; exact decide_eq_false (by omega))
        · by_cases h3 : v ≥ 55296
          · by_cases h4 : v ≤ 57343
            · simp only [if_neg h1, if_neg h2, if_pos h3, if_pos h4]; exact no (by rw [ho]; exact decide_eq_false (by omega))
            · simp only [if_neg h1, if_neg h2, if_pos h3, if_neg h4]; exact go (by rw [ho]; exact decide_eq_true (by omega))
          · simp only [if_neg h1, if_neg h2, if_neg h3]; exact go (by rw [ho]; exact decide_eq_true (by omega))
theorem all_nil_len {α : Type} {l : List α} {p : α → Bool} (h : (l.length : Int) = 0) : l.all p = true := by
  rw [List.eq_nil_of_length_eq_zero (show l.length = 0 by omega)]; rfl
theorem rj2_val (x4 x6 x7 a : Int) (b c : List Int) (e : List S41) (ok : ∀ y ∈ e, OkD y) (hc : c.length ≤ 1099511627776) (he : e.length ≤ 1099511627776) (ha : a = 1 ∨ a = 2 ∨ a = 3 ∨ x6 = 0) :
    Ev (fun k => deckleref10_right.j2 k x4 x6 x7 a b c e) (if gd x6 x7 a c e = true then (x4, true) else (0, false)) := by
  have hno : Ev (fun k => deckleref10_right.j3 k x4 x6 x7 true a b c e) (0, false) := Ev.succ (by simp only [deckleref10_right.j3, if_true]; exact Ev.const _)
  unfold gd
  refine Ev.succ ?_
  simp only [deckleref10_right.j2]
  by_cases g1 : (c.length : Int) = x6
  · by_cases g2 : (e.length : Int) = x7
    · have hs := rdecs_val x4 a b c e ok he e.length 0 (by omega) (by omega)
      rw [List.drop_zero, g2] at hs
      simp only [if_pos g1, if_pos g2]
      have hb : ((e.length : Int) != x7) = false := by rw [g2]; exact bne_self_eq_false _
      rw [hb]
      refine Ev.succ ?_
      simp only [deckleref10_right.j3, Bool.false_eq_true, if_false]
      have fin2 : ∀ t : Bool, (if t = true then (if e.all dr = true then (x4, true) else (0, false)) else ((0, false) : Int × Bool)) = if (t && e.all dr) = true then (x4, true) else (0, false) := by
        intro t; cases t <;> rfl
      rw [← fin2]
      rcases ha with h | h | h | h
      · have := rints_val x4 x7 a b c e _ (.inl h) hc hs c.length 0 (by omega) (by omega)
        rw [List.drop_zero, g1] at this; exact this
      · have := rints_val x4 x7 a b c e _ (.inr (.inl h)) hc hs c.length 0 (by omega) (by omega)
        rw [List.drop_zero, g1] at this; exact this
      · have := rints_val x4 x7 a b c e _ (.inr (.inr h)) hc hs c.length 0 (by omega) (by omega)
        rw [List.drop_zero, g1] at this; exact this
      · rw [all_nil_len (show (c.length : Int) = 0 by omega)]
        refine Ev.succ ?_
        simp only [deckleref10_right.l0, if_neg (show ¬ ((0 : Int) < x6) by omega), if_true]
        exact hs
    · simp only [if_pos g1, if_neg g2]
      have hb : ((e.length : Int) != x7) = true := bne_iff_ne.mpr g2
      rw [hb]
      exact hno
  · simp only [if_neg g1]
    exact hno
theorem right_val (n : S32) (ok : Ok2 n) : Ev (fun k => deckleref10_right.f k n.f0 n.f1 n.f2 n.f3) (if itm n < 0 then (0, false) else (itm n, true)) := by
  rw [itm_val n ok]
  have hc := rcnt_ev n.f1
  have h0 := cnt_pos0 n.f1
  revert hc h0
  generalize Sh.cnt n.f1 = x
  intro hc h0
  obtain ⟨ok1, ok2, ok3, ok4⟩ := ok
  have hj : Ev (fun k => deckleref10_right.j0 k x.1 true n.f0 n.f1 n.f2 n.f3) (0, false) := Ev.succ (by simp only [deckleref10_right.j0, if_true]; exact Ev.const _)
  simp only [deckleref10_right.f]
  refine Ev.bind hc ?_
  cases x.2 with
  | false => exact hj
  | true =>
    simp only [if_true]
    have hno : gdK n.f0 x.1 n.f2 n.f3 = false → (if (if gdK n.f0 x.1 n.f2 n.f3 = true then x.1 else -1) < 0 then ((0, false) : Int × Bool) else ((if gdK n.f0 x.1 n.f2 n.f3 = true then x.1 else -1), true)) = (0, false) := by
      intro h; rw [h]; rfl
    have hyes : ∀ t : Bool, gdK n.f0 x.1 n.f2 n.f3 = t → (if (if gdK n.f0 x.1 n.f2 n.f3 = true then x.1 else -1) < 0 then ((0, false) : Int × Bool) else ((if gdK n.f0 x.1 n.f2 n.f3 = true then x.1 else -1), true)) = if t = true then (x.1, true) else (0, false) := by
      intro t h; rw [h]
      cases t
      · rfl
      · simp only [if_true, if_neg (show ¬ x.1 < 0 by omega)]
    by_cases g1 : n.f0 < 1
    · simp only [if_pos g1]
      rw [hno (by unfold gdK; rw [if_neg (by omega), if_neg (by omega), if_neg (by omega)])]
      exact hj
    · by_cases g2 : n.f0 > 5
      · simp only [if_neg g1, decide_eq_true g2]
        rw [hno (by unfold gdK; rw [if_neg (by omega), if_neg (by omega), if_neg (by omega)])]
        exact hj
      · simp only [if_neg g1, decide_eq_false g2]
        refine Ev.succ ?_
        simp only [deckleref10_right.j0, Bool.false_eq_true, if_false]
        by_cases g4 : n.f0 ≥ 4
        · simp only [if_pos g4]
          refine Ev.succ ?_
          simp only [deckleref10_right.j1]
          by_cases g5 : n.f0 = 4
          · rw [hyes _ (by unfold gdK; rw [if_neg (by omega), if_pos g5])]
            simp only [if_pos g5]
            exact rj2_val _ _ _ _ _ _ _ ok1 (by omega) (by omega) (.inr (.inr (.inr rfl)))
          · rw [hyes _ (by unfold gdK; rw [if_neg (by omega), if_neg g5, if_pos (by omega)])]
            simp only [if_neg g5]
            exact rj2_val _ _ _ _ _ _ _ ok1 (by omega) (by omega) (.inr (.inr (.inr rfl)))
        · simp only [if_neg g4]
          refine Ev.succ ?_
          simp only [deckleref10_right.j1, if_neg (show ¬ n.f0 = 4 by omega)]
          rw [hyes _ (by unfold gdK; rw [if_pos (by omega)])]
          exact rj2_val _ _ _ _ _ _ _ ok1 (by omega) (by omega) (by omega)
noncomputable def lpS (F : List S32 → Int × Int × Int) : Nat → List S32 → Int → Int → Int → Int × Int × Int
  | 0, _, u, m, d => (u, m, d + 1)
  | c + 1, r, u, m, d => if (F r).1 = 0 ∨ m + (F r).2.1 > 1048576 then (0, 0, 0) else lpS F c (r.drop (F r).1.toNat) (u + (F r).1) (m + (F r).2.1) (mx d (F r).2.2)
noncomputable def firstS : Nat → List S32 → Int × Int × Int
  | 0, _ => (0, 0, 0)
  | _ + 1, [] => (0, 0, 0)
  | d + 1, n :: r => if itm n < 0 then (0, 0, 0) else if n.f0 = 5 then lpS (fun l => firstS d l) (itm n).toNat r 1 (itm n) 0 else (1, itm n, 1)
def Ans (d : Nat) (l : List S32) (x : Int × Int × Int) : Prop := x = (0, 0, 0) ∨ (1 ≤ x.1 ∧ x.1 ≤ (l.length : Int) ∧ 0 ≤ x.2.1 ∧ x.2.1 ≤ 1048576 ∧ 1 ≤ x.2.2 ∧ x.2.2 ≤ (d : Int))
theorem lp_ans (F : List S32 → Int × Int × Int) (d : Nat) (hF : ∀ l, Ans d l (F l)) : ∀ (c : Nat) (r : List S32) (u m dep : Int), 1 ≤ u → 0 ≤ m → m ≤ 1048576 → 0 ≤ dep → dep ≤ (d : Int) →
    lpS F c r u m dep = (0, 0, 0) ∨ (u ≤ (lpS F c r u m dep).1 ∧ (lpS F c r u m dep).1 ≤ u + (r.length : Int) ∧ m ≤ (lpS F c r u m dep).2.1 ∧ (lpS F c r u m dep).2.1 ≤ 1048576 ∧ dep + 1 ≤ (lpS F c r u m dep).2.2 ∧ (lpS F c r u m dep).2.2 ≤ (d : Int) + 1) := by
  intro c
  induction c with
  | zero => intro r u m dep h1 h2 h3 h4 h5; right; simp only [lpS]; omega
  | succ c ih =>
    intro r u m dep h1 h2 h3 h4 h5
    by_cases g : (F r).1 = 0 ∨ m + (F r).2.1 > 1048576
    · left; simp only [lpS, if_pos g]
    · simp only [lpS, if_neg g]
      rcases hF r with e | e
      · exact absurd (.inl (by rw [e])) g
      · have hm := mx_ge dep (F r).2.2
        have hd : (r.drop (F r).1.toNat).length = r.length - (F r).1.toNat := List.length_drop
        have := ih (r.drop (F r).1.toNat) (u + (F r).1) (m + (F r).2.1) (mx dep (F r).2.2) (by omega) (by omega) (by omega) (by omega) (by omega)
        rcases this with h | h
        · exact .inl h
        · right
          rw [hd] at h
          revert h
          generalize lpS F c (r.drop (F r).1.toNat) (u + (F r).1) (m + (F r).2.1) (mx dep (F r).2.2) = z
          intro h
          clear ih hF
          omega
theorem first_ans : ∀ (d : Nat) (l : List S32), Ans d l (firstS d l) := by
  intro d
  induction d with
  | zero => intro l; left; simp only [firstS]
  | succ d ih =>
    intro l
    cases l with
    | nil => left; simp only [firstS]
    | cons n r =>
      by_cases g : itm n < 0
      · left; simp only [firstS, if_pos g]
      · have hb := itm_le n
        by_cases g5 : n.f0 = 5
        · have := lp_ans (fun l => firstS d l) d ih (itm n).toNat r 1 (itm n) 0 (by omega) (by omega) (by omega) (by omega) (by omega)
          simp only [firstS, if_neg g, if_pos g5]
          rcases this with h | h
          · exact .inl h
          · right
            revert h
            generalize lpS (fun l => firstS d l) (itm n).toNat r 1 (itm n) 0 = z
            intro h
            clear ih
            simp only [List.length_cons]
            omega
        · right
          simp only [firstS, if_neg g, if_neg g5, List.length_cons]
          omega
theorem floop_ev (n : S32) (r : List S32) (d : Nat) (hd : d ≤ 15) (hr : r.length ≤ 1099511627776) (cnt : Int) (hc : cnt ≤ 1048576) (hF : ∀ m, Ev (fun k => deckleref10_first.f k (r.drop m) (d : Int)) (firstS d (r.drop m))) :
    ∀ (c m : Nat) (it dep i : Int), m ≤ r.length → 0 ≤ it → it ≤ 1048576 → 0 ≤ dep → dep ≤ (d : Int) → 0 ≤ i → cnt - i = (c : Int) →
    Ev (fun k => deckleref10_first.l0 k (n :: r) ((d + 1 : Nat) : Int) cnt ((m + 1 : Nat) : Int) it dep i) (lpS (fun l => firstS d l) c (r.drop m) ((m + 1 : Nat) : Int) it dep) := by
  intro c
  induction c with
  | zero =>
    intro m it dep i h1 h2 h3 h4 h5 h6 h7
    refine Ev.succ ?_
    simp only [deckleref10_first.l0, if_neg (show ¬ i < cnt by omega), lpS]
    rw [w64 (n := dep + 1) (by omega) (by omega)]
    exact Ev.const _
  | succ c ih =>
    intro m it dep i h1 h2 h3 h4 h5 h6 h7
    have hl : ((n :: r).length : Int) = (r.length : Int) + 1 := by simp only [List.length_cons]; omega
    have hw : wrap64 (((d + 1 : Nat) : Int) - 1) = (d : Int) := by rw [w64 (by omega) (by omega)]; omega
    have hdr : (n :: r).drop (((m + 1 : Nat) : Int)).toNat = r.drop m := by rw [Int.toNat_natCast, List.drop_succ_cons]
    have han := first_ans d (r.drop m)
    refine Ev.succ ?_
    simp only [deckleref10_first.l0, if_pos (show i < cnt by omega), if_pos (show (0 : Int) ≤ ((m + 1 : Nat) : Int) by omega), if_pos (show ((m + 1 : Nat) : Int) ≤ ((n :: r).length : Int) by omega), hdr, hw]
    refine Ev.bind (hF m) ?_
    simp only [lpS]
    generalize firstS d (r.drop m) = x at han
    have hlen : (r.drop m).length = r.length - m := List.length_drop
    rcases han with e | e
    · simp only [e, if_true, true_or]; exact Ev.const _
    · rw [hlen] at e
      have hw2 : wrap64 (it + x.2.1) = it + x.2.1 := w64 (by omega) (by omega)
      simp only [if_neg (show ¬ x.1 = 0 by omega), hw2]
      by_cases g : it + x.2.1 > 1048576
      · simp only [if_pos g, if_pos (show x.1 = 0 ∨ it + x.2.1 > 1048576 from .inr g)]; exact Ev.const _
      · have hm := mx_ge dep x.2.2
        simp only [if_neg g, if_neg (show ¬ (x.1 = 0 ∨ it + x.2.1 > 1048576) by omega)]
        have hw3 : wrap64 (((m + 1 : Nat) : Int) + x.1) = ((m + x.1.toNat + 1 : Nat) : Int) := by rw [w64 (by omega) (by omega)]; omega
        have hw4 : wrap64 (i + 1) = i + 1 := w64 (by omega) (by omega)
        rw [hw3, hw4, List.drop_drop, show ((m + 1 : Nat) : Int) + x.1 = ((m + x.1.toNat + 1 : Nat) : Int) by omega]
        exact ih (m + x.1.toNat) (it + x.2.1) (mx dep x.2.2) (i + 1) (by omega) (by omega) (by omega) (by omega) (by omega) (by omega) (by omega)
theorem first_ev : ∀ (d : Nat), d ≤ 16 → ∀ (l : List S32), (∀ n ∈ l, Ok2 n) → l.length ≤ 1099511627776 → Ev (fun k => deckleref10_first.f k l (d : Int)) (firstS d l) := by
  intro d
  induction d with
  | zero =>
    intro hd l ok hl
    have hj : Ev (fun k => deckleref10_first.j0 k l ((0 : Nat) : Int) true) (0, 0, 0) := Ev.succ (by simp only [deckleref10_first.j0, if_true]; exact Ev.const _)
    refine Ev.succ ?_
    simp only [firstS, deckleref10_first.f]
    by_cases h : (l.length : Int) = 0
    · simp only [if_pos h]; exact hj
    · simp only [if_neg h, decide_eq_true (show ((0 : Nat) : Int) < 1 by omega)]; exact hj
  | succ d ih =>
    intro hd l ok hl
    cases l with
    | nil =>
      refine Ev.succ ?_
      simp only [firstS, deckleref10_first.f, List.length_nil, if_pos (show ((0 : Nat) : Int) = 0 from rfl)]
      exact Ev.succ (by simp only [deckleref10_first.j0, if_true]; exact Ev.const _)
    | cons n r =>
      simp only [List.length_cons] at hl
      have hl2 : ((n :: r).length : Int) = (r.length : Int) + 1 := by simp only [List.length_cons]; omega
      refine Ev.succ ?_
      simp only [deckleref10_first.f, if_neg (show ¬ ((n :: r).length : Int) = 0 by omega), decide_eq_false (show ¬ ((d + 1 : Nat) : Int) < 1 by omega)]
      refine Ev.succ ?_
      simp only [deckleref10_first.j0, Bool.false_eq_true, if_false, if_pos (show (0 : Int) < ((n :: r).length : Int) by omega), show rd_T32 (n :: r) 0 = n from rfl]
      refine Ev.bind (right_val n (ok n List.mem_cons_self)) ?_
      have hb := itm_le n
      by_cases g : itm n < 0
      · simp only [if_pos g, firstS, Bool.false_eq_true, if_false]; exact Ev.const _
      · by_cases g5 : n.f0 = 5
        · simp only [if_neg g, firstS, if_true, if_pos g5]
          have hF : ∀ m, Ev (fun k => deckleref10_first.f k (r.drop m) (d : Int)) (firstS d (r.drop m)) := fun m => ih (by omega) (r.drop m) (fun x hx => ok x (List.mem_cons_of_mem _ (List.mem_of_mem_drop hx))) (by rw [List.length_drop]; omega)
          have := floop_ev n r d (by omega) (by omega) (itm n) hb hF (itm n).toNat 0 (itm n) 0 0 (by omega) (by omega) (by omega) (by omega) (by omega) (by omega) (by omega)
          rw [List.drop_zero] at this
          exact this
        · simp only [if_neg g, firstS, if_true, if_neg g5]; exact Ev.const _
theorem walk_first : ∀ (d : Nat) (l : List S32) (st : List Int) (all D i : Int), st.length + d = 16 → 0 ≤ all → all ≤ 1048576 → (st.length : Int) ≤ D →
    walkS all D st i l = if (firstS d l).1 = 0 ∨ all + (firstS d l).2.1 > 1048576 then (0, 0, 0) else fin (all + (firstS d l).2.1) (mx D ((st.length : Int) + (firstS d l).2.2)) (clr (decT st)) (i + (firstS d l).1) (l.drop (firstS d l).1.toNat) := by
  intro d
  induction d with
  | zero =>
    intro l st all D i hst h0 h1 hD
    simp only [firstS, true_or, if_true]
    cases l with
    | nil => simp only [walkS]
    | cons n r => simp only [walkS, if_pos (show itm n < 0 ∨ wrap64 (all + itm n) > 1048576 ∨ 16 ≤ st.length from .inr (.inr (by omega)))]
  | succ d ih =>
    intro l st all D i hst h0 h1 hD
    cases l with
    | nil => simp only [firstS, true_or, if_true, walkS]
    | cons n r =>
      have hb := itm_le n
      by_cases g : itm n < 0
      · simp only [firstS, if_pos g, true_or, if_true, walkS, if_pos (show itm n < 0 ∨ wrap64 (all + itm n) > 1048576 ∨ 16 ≤ st.length from .inl g)]
      · have hw : wrap64 (all + itm n) = all + itm n := w64 (by omega) (by omega)
        have hq : wrap64 ((st.length : Int) + 1) = (st.length : Int) + 1 := w64 (by omega) (by omega)
        by_cases g2 : all + itm n > 1048576
        · have hL : walkS all D st i (n :: r) = (0, 0, 0) := by
            simp only [walkS, if_pos (show itm n < 0 ∨ wrap64 (all + itm n) > 1048576 ∨ 16 ≤ st.length from .inr (.inl (by rw [hw]; exact g2)))]
          rw [hL]
          by_cases g5 : n.f0 = 5
          · have := lp_ans (fun l => firstS d l) d (first_ans d) (itm n).toNat r 1 (itm n) 0 (by omega) (by omega) (by omega) (by omega) (by omega)
            simp only [firstS, if_neg g, if_pos g5]
            revert this
            generalize lpS (fun l => firstS d l) (itm n).toNat r 1 (itm n) 0 = z
            intro h
            rw [if_pos]
            rcases h with h | h
            · left; rw [h]
            · right; omega
          · simp only [firstS, if_neg g, if_neg g5, if_pos (show (1 : Int) = 0 ∨ all + itm n > 1048576 from .inr g2)]
        · have hnf : ¬ (itm n < 0 ∨ wrap64 (all + itm n) > 1048576 ∨ 16 ≤ st.length) := by
            rw [hw]; clear ih; omega
          rw [walkS_fin hnf, hw, hq]
          clear hnf
          by_cases g5 : n.f0 = 5
          · have hp : push st n = itm n :: st := by unfold push; rw [if_pos g5]
            rw [hp]
            simp only [firstS, if_neg g, if_pos g5]
            have loop : ∀ (c : Nat) (r' : List S32) (u it dep : Int), (c : Int) + 1 ≤ 1048576 → 1 ≤ u → 0 ≤ it → it ≤ 1048576 → all + it ≤ 1048576 → 0 ≤ dep → dep ≤ (d : Int) →
                walkS (all + it) (mx D ((st.length : Int) + 1 + dep)) (((c + 1 : Nat) : Int) :: st) (i + u) r' =
                  if (lpS (fun l => firstS d l) (c + 1) r' u it dep).1 = 0 ∨ all + (lpS (fun l => firstS d l) (c + 1) r' u it dep).2.1 > 1048576 then (0, 0, 0)
                  else fin (all + (lpS (fun l => firstS d l) (c + 1) r' u it dep).2.1) (mx D ((st.length : Int) + (lpS (fun l => firstS d l) (c + 1) r' u it dep).2.2)) (clr (decT st)) (i + (lpS (fun l => firstS d l) (c + 1) r' u it dep).1) (r'.drop ((lpS (fun l => firstS d l) (c + 1) r' u it dep).1 - u).toNat) := by
              intro c
              induction c with
              | zero =>
                intro r' u it dep q0 q1 q2 q3 q4 q5 q6
                have m1 := mx_ge D ((st.length : Int) + 1 + dep)
                rw [ih r' (((0 + 1 : Nat) : Int) :: st) (all + it) (mx D ((st.length : Int) + 1 + dep)) (i + u) (by simp only [List.length_cons]; omega) (by omega) (by omega) (by simp only [List.length_cons]; omega)]
                have han := first_ans d r'
                have hun : lpS (fun l => firstS d l) (0 + 1) r' u it dep = if (firstS d r').1 = 0 ∨ it + (firstS d r').2.1 > 1048576 then (0, 0, 0) else (u + (firstS d r').1, it + (firstS d r').2.1, mx dep (firstS d r').2.2 + 1) := by simp only [lpS]
                rw [hun]
                clear hun
                revert han
                generalize firstS d r' = x
                intro han
                have hcl : clr (decT (((0 + 1 : Nat) : Int) :: st)) = clr (decT st) := by
                  have hd1 : dec1 ((0 + 1 : Nat) : Int) = 0 := by unfold dec1; rw [w64 (by omega) (by omega)]; omega
                  show clr (dec1 ((0 + 1 : Nat) : Int) :: st) = _
                  rw [hd1, clr_cons, if_pos rfl]
                rw [hcl]
                rcases han with e | e
                · simp only [e, true_or, if_true]
                · have hx : ¬ x.1 = 0 := by omega
                  by_cases g3 : it + x.2.1 > 1048576
                  · rw [if_pos (show x.1 = 0 ∨ all + it + x.2.1 > 1048576 by omega)]
                    simp only [if_pos (show x.1 = 0 ∨ it + x.2.1 > 1048576 from .inr g3), true_or, if_true]
                  · simp only [if_neg (show ¬ (x.1 = 0 ∨ it + x.2.1 > 1048576) by omega)]
                    have e1 : all + it + x.2.1 = all + (it + x.2.1) := by omega
                    rw [e1]
                    by_cases g4 : all + (it + x.2.1) > 1048576
                    · rw [if_pos (.inr g4), if_pos (.inr g4)]
                    · rw [if_neg (by omega), if_neg (by omega)]
                      have e2 : mx (mx D ((st.length : Int) + 1 + dep)) (((((0 + 1 : Nat) : Int) :: st).length : Int) + x.2.2) = mx D ((st.length : Int) + (mx dep x.2.2 + 1)) := by
                        have a1 := mx_ge dep x.2.2
                        have a2 := mx_ge D ((st.length : Int) + (mx dep x.2.2 + 1))
                        simp only [List.length_cons]
                        exact mx_eq (by omega) (by omega) (by omega)
                      rw [e2, show i + u + x.1 = i + (u + x.1) by omega, show (u + x.1 - u).toNat = x.1.toNat by omega]
              | succ c ihc =>
                intro r' u it dep q0 q1 q2 q3 q4 q5 q6
                have m1 := mx_ge D ((st.length : Int) + 1 + dep)
                rw [ih r' (((c + 1 + 1 : Nat) : Int) :: st) (all + it) (mx D ((st.length : Int) + 1 + dep)) (i + u) (by simp only [List.length_cons]; omega) (by omega) (by omega) (by simp only [List.length_cons]; omega)]
                have han := first_ans d r'
                have hun : lpS (fun l => firstS d l) (c + 1 + 1) r' u it dep = if (firstS d r').1 = 0 ∨ it + (firstS d r').2.1 > 1048576 then (0, 0, 0) else lpS (fun l => firstS d l) (c + 1) (r'.drop (firstS d r').1.toNat) (u + (firstS d r').1) (it + (firstS d r').2.1) (mx dep (firstS d r').2.2) := by simp only [lpS]
                rw [hun]
                clear hun
                revert han
                generalize firstS d r' = x
                intro han
                have hcl : clr (decT (((c + 1 + 1 : Nat) : Int) :: st)) = ((c + 1 : Nat) : Int) :: st := by
                  have hd1 : dec1 ((c + 1 + 1 : Nat) : Int) = ((c + 1 : Nat) : Int) := by unfold dec1; rw [w64 (by omega) (by omega)]; omega
                  show clr (dec1 ((c + 1 + 1 : Nat) : Int) :: st) = _
                  rw [hd1, clr_cons, if_neg (by omega)]
                rw [hcl]
                rcases han with e | e
                · simp only [e, true_or, if_true]
                · have hx : ¬ x.1 = 0 := by omega
                  by_cases g3 : it + x.2.1 > 1048576
                  · rw [if_pos (show x.1 = 0 ∨ all + it + x.2.1 > 1048576 by omega)]
                    simp only [if_pos (show x.1 = 0 ∨ it + x.2.1 > 1048576 from .inr g3), true_or, if_true]
                  · rw [if_neg (show ¬ (x.1 = 0 ∨ it + x.2.1 > 1048576) by omega)]
                    have e1 : all + it + x.2.1 = all + (it + x.2.1) := by omega
                    rw [e1]
                    have a1 := mx_ge dep x.2.2
                    by_cases g4 : all + (it + x.2.1) > 1048576
                    · rw [if_pos (.inr g4)]
                      have := lp_ans (fun l => firstS d l) d (first_ans d) (c + 1) (r'.drop x.1.toNat) (u + x.1) (it + x.2.1) (mx dep x.2.2) (by omega) (by omega) (by omega) (by omega) (by omega)
                      revert this
                      generalize lpS (fun l => firstS d l) (c + 1) (r'.drop x.1.toNat) (u + x.1) (it + x.2.1) (mx dep x.2.2) = z
                      intro h
                      rw [if_pos]
                      rcases h with h | h
                      · left; rw [h]
                      · right; omega
                    · rw [if_neg (by omega), fin_cons (List.cons_ne_nil _ _)]
                      have e2 : mx (mx D ((st.length : Int) + 1 + dep)) (((((c + 1 + 1 : Nat) : Int) :: st).length : Int) + x.2.2) = mx D ((st.length : Int) + 1 + mx dep x.2.2) := by
                        have a2 := mx_ge D ((st.length : Int) + 1 + mx dep x.2.2)
                        simp only [List.length_cons]
                        exact mx_eq (by omega) (by omega) (by omega)
                      rw [e2, show i + u + x.1 = i + (u + x.1) by omega, ihc (r'.drop x.1.toNat) (u + x.1) (it + x.2.1) (mx dep x.2.2) (by omega) (by omega) (by omega) (by omega) (by omega) (by omega) (by omega)]
                      have han2 := lp_ans (fun l => firstS d l) d (first_ans d) (c + 1) (r'.drop x.1.toNat) (u + x.1) (it + x.2.1) (mx dep x.2.2) (by omega) (by omega) (by omega) (by omega) (by omega)
                      revert han2
                      generalize lpS (fun l => firstS d l) (c + 1) (r'.drop x.1.toNat) (u + x.1) (it + x.2.1) (mx dep x.2.2) = z
                      intro han2
                      rcases han2 with h | h
                      · simp only [h, true_or, if_true]
                      · rw [List.drop_drop, show x.1.toNat + (z.1 - (u + x.1)).toNat = (z.1 - u).toNat by omega]
            by_cases hz : itm n = 0
            · rw [hz, clr_cons, if_pos rfl]
              simp only [Int.toNat_zero, lpS]
              rw [if_neg (by omega), Int.zero_add]
              rfl
            · obtain ⟨c, hc⟩ : ∃ c : Nat, itm n = ((c + 1 : Nat) : Int) := ⟨(itm n).toNat - 1, by omega⟩
              rw [clr_cons, if_neg hz, fin_cons (List.cons_ne_nil _ _)]
              have := loop c r 1 (itm n) 0 (by omega) (by omega) (by omega) (by omega) (by omega) (by omega) (by omega)
              rw [← hc, Int.add_zero] at this
              rw [this, show (itm n).toNat = c + 1 by omega]
              have han2 := lp_ans (fun l => firstS d l) d (first_ans d) (c + 1) r 1 (itm n) 0 (by omega) (by omega) (by omega) (by omega) (by omega)
              revert han2
              generalize lpS (fun l => firstS d l) (c + 1) r 1 (itm n) 0 = z
              intro han2
              rcases han2 with h | h
              · simp only [h, true_or, if_true]
              · rw [show z.1.toNat = (z.1 - 1).toNat + 1 by omega, List.drop_succ_cons]
          · have hp : push st n = decT st := by unfold push; rw [if_neg g5]
            rw [hp]
            simp only [firstS, if_neg g, if_neg g5]
            rw [if_neg (by omega)]
            rfl
theorem walk_is (l : List S32) : walkS 0 0 [] 0 l = firstS 16 l := by
  rw [walk_first 16 l [] 0 0 0 (by simp) (by omega) (by omega) (by simp)]
  have han := first_ans 16 l
  revert han
  generalize firstS 16 l = x
  intro han
  rcases han with e | e
  · simp only [e, true_or, if_true]
  · rw [if_neg (by omega)]
    show fin (0 + x.2.1) (mx 0 ((([] : List Int).length : Int) + x.2.2)) (clr []) (0 + x.1) _ = x
    rw [clr_nil]
    have : mx 0 ((([] : List Int).length : Int) + x.2.2) = x.2.2 := by
      simp only [List.length_nil]
      exact mx_eq (by omega) (by omega) (by omega)
    rw [this, Int.zero_add, Int.zero_add]
    rfl
noncomputable def q {α : Type} (a b : α) : Bool := @decide (a = b) (Classical.propDecidable _)
theorem q_t {α : Type} {a b : α} (h : a = b) : q a b = true := by unfold q; exact @decide_eq_true _ (Classical.propDecidable _) h
theorem q_f {α : Type} {a b : α} (h : a ≠ b) : q a b = false := by unfold q; exact @decide_eq_false _ (Classical.propDecidable _) h
theorem q_nil {α : Type} {a b : List α} {i : Nat} (h : a.length ≤ i) (h2 : b.length ≤ i) : q (a.drop i) (b.drop i) = true := q_t (by rw [List.drop_eq_nil_of_le h, List.drop_eq_nil_of_le h2])
theorem q_eq {α : Type} {a b : List α} {i : Nat} (ha : i < a.length) (hb : i < b.length) (h : a[i] = b[i]) : q (a.drop i) (b.drop i) = q (a.drop (i + 1)) (b.drop (i + 1)) := by
  by_cases g : a.drop (i + 1) = b.drop (i + 1)
  · rw [q_t g, q_t (by rw [List.drop_eq_getElem_cons ha, List.drop_eq_getElem_cons hb, h, g])]
  · rw [q_f g, q_f (fun e => g (by rw [List.drop_eq_getElem_cons ha, List.drop_eq_getElem_cons hb] at e; injection e))]
theorem q_ne {α : Type} {a b : List α} {i : Nat} (ha : i < a.length) (hb : i < b.length) (h : a[i] ≠ b[i]) : q (a.drop i) (b.drop i) = false :=
  q_f (fun e => h (by rw [List.drop_eq_getElem_cons ha, List.drop_eq_getElem_cons hb] at e; injection e))
theorem eqi_loop (a b : List Int) (he : a.length = b.length) (hl : a.length ≤ 1099511627776) : ∀ d i, i ≤ a.length → a.length - i = d → Ev (fun k => slices_Equal_int_int.l0 k a b (a.length : Int) (i : Int)) (q (a.drop i) (b.drop i)) := by
  intro d
  induction d with
  | zero =>
    intro i h1 h2
    rw [q_nil (by omega) (by omega)]
    refine Ev.succ ?_
    simp only [slices_Equal_int_int.l0, if_neg (show ¬ ((i : Int) < (a.length : Int)) by omega)]
    exact Ev.const _
  | succ d ih =>
    intro i h1 h2
    have hi : i < a.length := by omega
    have hb : i < b.length := by omega
    have hv := ih (i + 1) (by omega) (by omega)
    refine Ev.succ ?_
    simp only [slices_Equal_int_int.l0, if_pos (show ((i : Int) < (a.length : Int)) by omega), if_pos (show ((i : Int) < (b.length : Int)) by omega), if_pos (show (0 : Int) ≤ (i : Int) by omega), ix hi hl, rd_at a i hi, rd_at b i hb]
    by_cases g : a[i] = b[i]
    · rw [q_eq hi hb g]; simp only [if_pos g]; exact hv
    · rw [q_ne hi hb g]; simp only [if_neg g]; exact Ev.const _
theorem eqi_ev (a b : List Int) (hl : a.length ≤ 1099511627776) : Ev (fun k => slices_Equal_int_int.f k a b) (q a b) := by
  by_cases h : (a.length : Int) = (b.length : Int)
  · simp only [slices_Equal_int_int.f, if_pos h]
    have := eqi_loop a b (by omega) hl a.length 0 (by omega) (by omega)
    simp only [List.drop_zero] at this
    exact this
  · simp only [slices_Equal_int_int.f, if_neg h]
    rw [q_f (fun e => h (by rw [e]))]
    exact Ev.const _
theorem req_loop (a b : List Int) (he : a.length = b.length) (hl : a.length ≤ 1099511627776) : ∀ d i, i ≤ a.length → a.length - i = d → Ev (fun k => deckleref01_Same.l0 k a b (i : Int)) (q (a.drop i) (b.drop i)) := by
  intro d
  induction d with
  | zero =>
    intro i h1 h2
    rw [q_nil (by omega) (by omega)]
    refine Ev.succ ?_
    simp only [deckleref01_Same.l0, if_neg (show ¬ ((i : Int) < (a.length : Int)) by omega)]
    exact Ev.const _
  | succ d ih =>
    intro i h1 h2
    have hi : i < a.length := by omega
    have hb : i < b.length := by omega
    have hv := ih (i + 1) (by omega) (by omega)
    refine Ev.succ ?_
    simp only [deckleref01_Same.l0, if_pos (show ((i : Int) < (a.length : Int)) by omega), if_pos (show ((i : Int) < (b.length : Int)) by omega), if_pos (show (0 : Int) ≤ (i : Int) by omega), ix hi hl, rd_at a i hi, rd_at b i hb]
    by_cases g : a[i] = b[i]
    · rw [q_eq hi hb g]; simp only [if_pos g]; exact hv
    · rw [q_ne hi hb g]; simp only [if_neg g]; exact Ev.const _
theorem req_ev (a b : List Int) (hl : a.length ≤ 1099511627776) : Ev (fun k => deckleref01_Same.f k a b) (q a b) := by
  by_cases h : (a.length : Int) = (b.length : Int)
  · simp only [deckleref01_Same.f, if_pos h]
    have := req_loop a b (by omega) hl a.length 0 (by omega) (by omega)
    simp only [List.drop_zero] at this
    exact this
  · simp only [deckleref01_Same.f, if_neg h]
    rw [q_f (fun e => h (by rw [e]))]
    exact Ev.const _
theorem dec_ne (x y : S41) : (!(x.f0 == y.f0) || !(x.f1 == y.f1)) = !(q x y) := by
  by_cases h : x = y
  · rw [q_t h, h]; simp
  · rw [q_f h]
    obtain ⟨a, b⟩ := x
    obtain ⟨c, d⟩ := y
    by_cases e : a = c
    · by_cases f : b = d
      · exact absurd (by rw [e, f]) h
      · simp only [beq_eq_false_iff_ne.mpr f, Bool.not_false, Bool.or_true]
    · simp only [beq_eq_false_iff_ne.mpr e, Bool.not_false, Bool.true_or]
theorem eqd_loop (a b : List S41) (he : a.length = b.length) (hl : a.length ≤ 1099511627776) : ∀ d i, i ≤ a.length → a.length - i = d → Ev (fun k => api_Dec_38.l0 k a b (a.length : Int) (i : Int)) (q (a.drop i) (b.drop i)) := by
  intro d
  induction d with
  | zero =>
    intro i h1 h2
    rw [q_nil (by omega) (by omega)]
    refine Ev.succ ?_
    simp only [api_Dec_38.l0, if_neg (show ¬ ((i : Int) < (a.length : Int)) by omega)]
    exact Ev.const _
  | succ d ih =>
    intro i h1 h2
    have hi : i < a.length := by omega
    have hb : i < b.length := by omega
    have hv := ih (i + 1) (by omega) (by omega)
    refine Ev.succ ?_
    simp only [api_Dec_38.l0, if_pos (show ((i : Int) < (a.length : Int)) by omega), if_pos (show ((i : Int) < (b.length : Int)) by omega), if_pos (show (0 : Int) ≤ (i : Int) by omega), ix hi hl, rdD_at a i hi, rdD_at b i hb, dec_ne]
    by_cases g : a[i] = b[i]
    · rw [q_eq hi hb g]; simp only [q_t g, Bool.not_true, Bool.false_eq_true, if_false]; exact hv
    · rw [q_ne hi hb g]; simp only [q_f g, Bool.not_false, if_true]; exact Ev.const _
theorem eqd_ev (a b : List S41) (hl : a.length ≤ 1099511627776) : Ev (fun k => api_Dec_38.f k a b) (q a b) := by
  by_cases h : (a.length : Int) = (b.length : Int)
  · simp only [api_Dec_38.f, if_pos h]
    have := eqd_loop a b (by omega) hl a.length 0 (by omega) (by omega)
    simp only [List.drop_zero] at this
    exact this
  · simp only [api_Dec_38.f, if_neg h]
    rw [q_f (fun e => h (by rw [e]))]
    exact Ev.const _
theorem node_q (x y : S32) : q x y = (q x.f0 y.f0 && (q x.f1 y.f1 && (q x.f2 y.f2 && q x.f3 y.f3))) := by
  obtain ⟨a, b, c, d⟩ := x
  obtain ⟨a', b', c', d'⟩ := y
  by_cases h0 : a = a'
  · by_cases h1 : b = b'
    · by_cases h2 : c = c'
      · by_cases h3 : d = d'
        · rw [q_t (by rw [h0, h1, h2, h3])]; simp only [q_t h0, q_t h1, q_t h2, q_t h3]; rfl
        · rw [q_f (fun e => h3 (by injection e))]; simp only [q_f h3, Bool.and_false]
      · rw [q_f (fun e => h2 (by injection e))]; simp only [q_f h2, Bool.and_false, Bool.false_and]
    · rw [q_f (fun e => h1 (by injection e))]; simp only [q_f h1, Bool.and_false, Bool.false_and]
  · rw [q_f (fun e => h0 (by injection e))]; simp only [q_f h0, Bool.false_and]
theorem same1_ev (x y : S32) (h : Fits x) : Ev (fun k => array_Same_1.f k x.f0 x.f1 x.f2 x.f3 y.f0 y.f1 y.f2 y.f3) (q x y) := by
  obtain ⟨h1, h2, h3⟩ := h
  rw [node_q]
  by_cases e : x.f0 = y.f0
  · simp only [array_Same_1.f, if_pos e, q_t e, Bool.true_and]
    refine Ev.bind (eqi_ev x.f1 y.f1 (by omega)) ?_
    cases q x.f1 y.f1 with
    | false => exact Ev.const _
    | true =>
      refine Ev.bind (eqi_ev x.f2 y.f2 (by omega)) ?_
      cases q x.f2 y.f2 with
      | false => exact Ev.const _
      | true => exact Ev.bind (eqd_ev x.f3 y.f3 (by omega)) (Ev.const _)
  · simp only [array_Same_1.f, if_neg e, q_f e, Bool.false_and]; exact Ev.const _
theorem eqn_loop (a b : List S32) (he : a.length = b.length) (hl : a.length ≤ 100) (hf : ∀ n ∈ a, Fits n) : ∀ d i, i ≤ a.length → a.length - i = d → Ev (fun k => api_Node_35.l0 k b a (a.length : Int) (i : Int)) (q (a.drop i) (b.drop i)) := by
  intro d
  induction d with
  | zero =>
    intro i h1 h2
    rw [q_nil (by omega) (by omega)]
    refine Ev.succ ?_
    simp only [api_Node_35.l0, if_neg (show ¬ ((i : Int) < (a.length : Int)) by omega)]
    exact Ev.const _
  | succ d ih =>
    intro i h1 h2
    have hi : i < a.length := by omega
    have hb : i < b.length := by omega
    have hv := ih (i + 1) (by omega) (by omega)
    refine Ev.succ ?_
    simp only [api_Node_35.l0, if_pos (show ((i : Int) < (a.length : Int)) by omega), if_pos (show ((i : Int) < (b.length : Int)) by omega), if_pos (show (0 : Int) ≤ (i : Int) by omega), ix hi (by omega), rdT_at a i hi, rdT_at b i hb]
    refine Ev.bind (same1_ev a[i] b[i] (hf _ (List.getElem_mem _))) ?_
    by_cases g : a[i] = b[i]
    · rw [q_eq hi hb g]; simp only [q_t g, if_true]; exact hv
    · rw [q_ne hi hb g]; simp only [q_f g, Bool.false_eq_true, if_false]; exact Ev.const _
theorem same_q (a b : List S32) (hl : a.length ≤ 100) (hf : ∀ n ∈ a, Fits n) : Ev (fun k => array_Same.f k a b) (q a b) := by
  simp only [array_Same.f]
  refine Ev.bind ?_ (Ev.const _)
  by_cases h : (a.length : Int) = (b.length : Int)
  · simp only [api_Node_35.f, if_pos h]
    have := eqn_loop a b (by omega) hl hf a.length 0 (by omega) (by omega)
    simp only [List.drop_zero] at this
    exact this
  · simp only [api_Node_35.f, if_neg h]
    rw [q_f (fun e => h (by rw [e]))]
    exact Ev.const _
theorem one_loop (x y : S32) (h : Fits x) (he : x.f3.length = y.f3.length) : ∀ d i, i ≤ x.f3.length → x.f3.length - i = d → Ev (fun k => deckleref10_One.l0 k (i : Int) x.f0 x.f1 x.f2 x.f3 y.f0 y.f1 y.f2 y.f3) (q (x.f3.drop i) (y.f3.drop i) && (q x.f0 y.f0 && (q x.f1 y.f1 && q x.f2 y.f2))) := by
  obtain ⟨h1, h2, h3⟩ := h
  intro d
  induction d with
  | zero =>
    intro i g1 g2
    rw [q_nil (by omega) (by omega)]
    refine Ev.succ ?_
    simp only [deckleref10_One.l0, if_neg (show ¬ ((i : Int) < (x.f3.length : Int)) by omega), Bool.true_and]
    by_cases e : x.f0 = y.f0
    · simp only [if_pos e, q_t e, Bool.true_and]
      refine Ev.bind (req_ev x.f1 y.f1 (by omega)) ?_
      cases q x.f1 y.f1 with
      | false => exact Ev.const _
      | true => exact Ev.bind (req_ev x.f2 y.f2 (by omega)) (Ev.const _)
    · simp only [if_neg e, q_f e, Bool.false_and]; exact Ev.const _
  | succ d ih =>
    intro i g1 g2
    have hi : i < x.f3.length := by omega
    have hb : i < y.f3.length := by omega
    have hv := ih (i + 1) (by omega) (by omega)
    refine Ev.succ ?_
    simp only [deckleref10_One.l0, if_pos (show ((i : Int) < (x.f3.length : Int)) by omega), if_pos (show ((i : Int) < (y.f3.length : Int)) by omega), if_pos (show (0 : Int) ≤ (i : Int) by omega), ix hi (by omega), rdD_at x.f3 i hi, rdD_at y.f3 i hb, dec_ne]
    by_cases g : x.f3[i] = y.f3[i]
    · rw [q_eq hi hb g]; simp only [q_t g, Bool.not_true, Bool.false_eq_true, if_false]; exact hv
    · rw [q_ne hi hb g]; simp only [q_f g, Bool.not_false, if_true, Bool.false_and]; exact Ev.const _
theorem one_ev (x y : S32) (h : Fits x) : Ev (fun k => deckleref10_One.f k x.f0 x.f1 x.f2 x.f3 y.f0 y.f1 y.f2 y.f3) (q x y) := by
  by_cases e : (x.f3.length : Int) = (y.f3.length : Int)
  · simp only [deckleref10_One.f, if_pos e]
    have := one_loop x y h (by omega) x.f3.length 0 (by omega) (by omega)
    simp only [List.drop_zero] at this
    rw [node_q]
    have c : ∀ p q r s : Bool, (p && (q && (r && s))) = (q && (r && (s && p))) := by decide
    rw [c] at this
    exact this
  · simp only [deckleref10_One.f, if_neg e]
    rw [q_f (fun g => e (by rw [g]))]
    exact Ev.const _
theorem rsame_loop (a b : List S32) (he : a.length = b.length) (hl : a.length ≤ 100) (hf : ∀ n ∈ a, Fits n) : ∀ d i, i ≤ a.length → a.length - i = d → Ev (fun k => deckleref10_Same.l0 k a b (i : Int)) (q (a.drop i) (b.drop i)) := by
  intro d
  induction d with
  | zero =>
    intro i h1 h2
    rw [q_nil (by omega) (by omega)]
    refine Ev.succ ?_
    simp only [deckleref10_Same.l0, if_neg (show ¬ ((i : Int) < (a.length : Int)) by omega)]
    exact Ev.const _
  | succ d ih =>
    intro i h1 h2
    have hi : i < a.length := by omega
    have hb : i < b.length := by omega
    have hv := ih (i + 1) (by omega) (by omega)
    refine Ev.succ ?_
    simp only [deckleref10_Same.l0, if_pos (show ((i : Int) < (a.length : Int)) by omega), if_pos (show ((i : Int) < (b.length : Int)) by omega), if_pos (show (0 : Int) ≤ (i : Int) by omega), ix hi (by omega), rdT_at a i hi, rdT_at b i hb]
    refine Ev.bind (one_ev a[i] b[i] (hf _ (List.getElem_mem _))) ?_
    by_cases g : a[i] = b[i]
    · rw [q_eq hi hb g]; simp only [q_t g, if_true]; exact hv
    · rw [q_ne hi hb g]; simp only [q_f g, Bool.false_eq_true, if_false]; exact Ev.const _
theorem rsame_q (a b : List S32) (hl : a.length ≤ 100) (hf : ∀ n ∈ a, Fits n) : Ev (fun k => deckleref10_Same.f k a b) (q a b) := by
  by_cases h : (a.length : Int) = (b.length : Int)
  · simp only [deckleref10_Same.f, if_pos h]
    have := rsame_loop a b (by omega) hl hf a.length 0 (by omega) (by omega)
    simp only [List.drop_zero] at this
    exact this
  · simp only [deckleref10_Same.f, if_neg h]
    rw [q_f (fun e => h (by rw [e]))]
    exact Ev.const _
theorem mem_flat {ks : List (List S32)} {P : S32 → Prop} (h : ∀ n ∈ ks.flatten, P n) : ∀ l ∈ ks, ∀ n ∈ l, P n := fun l hl n hn => h n (List.mem_flatten.2 ⟨l, hl, hn⟩)
theorem flat_len : ∀ (ks : List (List S32)), ∀ l ∈ ks, l.length ≤ ks.flatten.length := by
  intro ks
  induction ks with
  | nil => intro l hl; simp at hl
  | cons a ks ih =>
    intro l hl
    rw [List.flatten_cons, List.length_append]
    rcases List.mem_cons.1 hl with rfl | hl
    · omega
    · have := ih l hl; omega
theorem flat_count : ∀ (ks : List (List S32)), (∀ l ∈ ks, 1 ≤ l.length) → ks.length ≤ ks.flatten.length := by
  intro ks
  induction ks with
  | nil => intro _; simp
  | cons a ks ih =>
    intro h
    rw [List.flatten_cons, List.length_append, List.length_cons]
    have h1 := h a (List.mem_cons_self)
    have h2 := ih fun l hl => h l (List.mem_cons_of_mem _ hl)
    omega
theorem rdL_at (b : List (List S32)) (m : Nat) (h : m < b.length) : rd_L5 b (m : Int) = b[m] := by
  unfold rd_L5
  rw [List.getD_eq_getElem?_getD, Int.toNat_natCast, List.getElem?_eq_getElem h]; rfl
theorem rfirst_ev (l : List S32) (ok : ∀ n ∈ l, Ok2 n) (hl : l.length ≤ 1099511627776) : Ev (fun k => deckleref10_first.f k l 16) (walkS 0 0 [] 0 l) := by
  rw [walk_is]; exact first_ev 16 (Nat.le_refl _) l ok hl
theorem rtake_ev (l : List S32) (ok : ∀ n ∈ l, Ok2 n) (hl : l.length ≤ 1099511627776) : Ev (fun k => deckleref10_Take.f k l) (tk l) := by
  simp only [deckleref10_Take.f]
  exact Ev.bind (rfirst_ev l ok hl) (Ev.const _)
theorem rright_ev (l : List S32) (ok : ∀ n ∈ l, Ok2 n) (hl : l.length ≤ 1099511627776) : Ev (fun k => deckleref10_Right.f k l) (rt l) := by
  unfold rt
  by_cases h : (l.length : Int) > 0
  · simp only [deckleref10_Right.f, if_pos h]
    exact Ev.bind (rtake_ev l ok hl) (Ev.const _)
  · simp only [deckleref10_Right.f, if_neg h]
    exact Ev.const _
theorem two_val (l : List S32) (p : Int × Int × Int → Int) (hp : p (0, 0, 0) = 0) : (if (walkS 0 0 [] 0 l).1 = (l.length : Int) then p (walkS 0 0 [] 0 l) else 0) = if rt l = true then p (walkS 0 0 [] 0 l) else 0 := by
  cases l with
  | nil => simp only [walkS, hp, ite_self]
  | cons n r =>
    have hr : rt (n :: r) = (tk (n :: r) == ((n :: r).length : Int)) := by
      unfold rt
      rw [if_pos (by simp only [List.length_cons]; omega)]
    rw [hr]
    unfold tk
    by_cases e : (walkS 0 0 [] 0 (n :: r)).1 = ((n :: r).length : Int)
    · rw [if_pos e, if_pos (beq_iff_eq.mpr e)]
    · rw [if_neg e, if_neg (fun h => e (eq_of_beq h))]
theorem items_both (l : List S32) (ok : ∀ n ∈ l, Ok2 n) (hl : l.length ≤ 100) : ∃ v, Ev (fun k => array_Items.f k l) v ∧ Ev (fun k => deckleref10_Items.f k l) v := by
  refine ⟨if (walkS 0 0 [] 0 l).1 = (l.length : Int) then (walkS 0 0 [] 0 l).2.1 else 0, ?_, ?_⟩
  · simp only [array_Items.f]
    refine Ev.bind (walkf_ev l (fun n hn => (ok n hn).1) (by omega)) ?_
    by_cases e : (walkS 0 0 [] 0 l).1 = (l.length : Int)
    · simp only [if_pos e]; exact Ev.const _
    · simp only [if_neg e]; exact Ev.const _
  · rw [two_val l (fun x => x.2.1) rfl]
    simp only [deckleref10_Items.f]
    refine Ev.bind (rright_ev l ok (by omega)) ?_
    cases rt l with
    | true => simp only [if_true]; exact Ev.bind (rfirst_ev l ok (by omega)) (Ev.const _)
    | false => simp only [Bool.false_eq_true, if_false]; exact Ev.const _
theorem depth_both (l : List S32) (ok : ∀ n ∈ l, Ok2 n) (hl : l.length ≤ 100) : ∃ v, Ev (fun k => array_Depth.f k l) v ∧ Ev (fun k => deckleref10_Depth.f k l) v := by
  refine ⟨if (walkS 0 0 [] 0 l).1 = (l.length : Int) then (walkS 0 0 [] 0 l).2.2 else 0, ?_, ?_⟩
  · simp only [array_Depth.f]
    refine Ev.bind (walkf_ev l (fun n hn => (ok n hn).1) (by omega)) ?_
    by_cases e : (walkS 0 0 [] 0 l).1 = (l.length : Int)
    · simp only [if_pos e]; exact Ev.const _
    · simp only [if_neg e]; exact Ev.const _
  · rw [two_val l (fun x => x.2.2) rfl]
    simp only [deckleref10_Depth.f]
    refine Ev.bind (rright_ev l ok (by omega)) ?_
    cases rt l with
    | true => simp only [if_true]; exact Ev.bind (rfirst_ev l ok (by omega)) (Ev.const _)
    | false => simp only [Bool.false_eq_true, if_false]; exact Ev.const _
theorem rank_loop (l : List S32) (hl : l.length ≤ 100) : ∀ d i, i ≤ l.length → l.length - i = d → ∀ x, ∃ v, Ev (fun k => array_Rank.l0 k x l (l.length : Int) (i : Int)) v ∧ Ev (fun k => deckleref10_Rank.l0 k l x (i : Int)) v := by
  intro d
  induction d with
  | zero =>
    intro i h1 h2 x
    refine ⟨x, Ev.succ ?_, Ev.succ ?_⟩
    · simp only [array_Rank.l0, if_neg (show ¬ ((i : Int) < (l.length : Int)) by omega)]; exact Ev.const _
    · simp only [deckleref10_Rank.l0, if_neg (show ¬ ((i : Int) < (l.length : Int)) by omega)]; exact Ev.const _
  | succ d ih =>
    intro i h1 h2 x
    have hi : i < l.length := by omega
    obtain ⟨v, ha, hb⟩ := ih (i + 1) (by omega) (by omega) (mx x (((rd_T32 l (i : Int)).f1).length : Int))
    refine ⟨v, Ev.succ ?_, Ev.succ ?_⟩
    · simp only [array_Rank.l0, if_pos (show ((i : Int) < (l.length : Int)) by omega), if_pos (show (0 : Int) ≤ (i : Int) by omega), ix hi (show l.length ≤ 1099511627776 by omega)]; exact ha
    · simp only [deckleref10_Rank.l0, if_pos (show ((i : Int) < (l.length : Int)) by omega), if_pos (show (0 : Int) ≤ (i : Int) by omega), ix hi (show l.length ≤ 1099511627776 by omega)]; exact hb
theorem rank_both (l : List S32) (ok : ∀ n ∈ l, Ok2 n) (hl : l.length ≤ 100) : ∃ v, Ev (fun k => array_Rank.f k l) v ∧ Ev (fun k => deckleref10_Rank.f k l) v := by
  have h1 := right_ev l (fun n hn => (ok n hn).1) (by omega)
  have h2 := rright_ev l ok (by omega)
  cases h : rt l with
  | true =>
    rw [h] at h1 h2
    obtain ⟨v, ha, hb⟩ := rank_loop l hl l.length 0 (by omega) (by omega) 0
    refine ⟨v, ?_, ?_⟩
    · simp only [array_Rank.f]; refine Ev.bind h1 ?_; simp only [if_true]; exact ha
    · simp only [deckleref10_Rank.f]; refine Ev.bind h2 ?_; simp only [if_true]; exact hb
  | false =>
    rw [h] at h1 h2
    refine ⟨0, ?_, ?_⟩
    · simp only [array_Rank.f]; refine Ev.bind h1 ?_; simp only [Bool.false_eq_true, if_false]; exact Ev.const _
    · simp only [deckleref10_Rank.f]; refine Ev.bind h2 ?_; simp only [Bool.false_eq_true, if_false]; exact Ev.const _
theorem rcopy_loop (l : List S32) (hl : l.length ≤ 100) (hf : ∀ n ∈ l, Fits n) : ∀ d i, i ≤ l.length → l.length - i = d → Ev (fun k => deckleref10_Copy.l0 k l (l.take i) (i : Int)) l := by
  intro d
  induction d with
  | zero =>
    intro i h1 h2
    refine Ev.succ ?_
    simp only [deckleref10_Copy.l0, if_neg (show ¬ ((i : Int) < (l.length : Int)) by omega)]
    rw [List.take_of_length_le (show l.length ≤ i by omega)]
    exact Ev.const _
  | succ d ih =>
    intro i h1 h2
    have hi : i < l.length := by omega
    have hv := ih (i + 1) (by omega) (by omega)
    obtain ⟨f1, f2, f3⟩ := hf l[i] (List.getElem_mem _)
    have ht : (l.take i).length = i := by rw [List.length_take]; omega
    rw [List.take_succ_eq_append_getElem hi] at hv
    refine Ev.succ ?_
    simp only [deckleref10_Copy.l0, if_pos (show ((i : Int) < (l.length : Int)) by omega), if_pos (show (0 : Int) ≤ (i : Int) by omega), ix hi (show l.length ≤ 1099511627776 by omega), rdT_at l i hi, Option.bind_some, List.length_nil, Nat.zero_add, List.nil_append, if_pos (show l[i].f1.length < 17592186044416 by omega), if_pos (show l[i].f2.length < 17592186044416 by omega), if_pos (show l[i].f3.length < 8796093022208 by omega), ht, if_pos (show i < 1759218604441 by omega)]
    exact hv
theorem rcopy_ev (l : List S32) (hl : l.length ≤ 100) (hf : ∀ n ∈ l, Fits n) : Ev (fun k => deckleref10_Copy.f k l) l := by
  have := rcopy_loop l hl hf l.length 0 (by omega) (by omega)
  rw [List.take_zero] at this
  simp only [deckleref10_Copy.f]
  exact this
theorem arr_first {k : List S32} (h : Arr k) (r : List S32) : tk (k ++ r) = (k.length : Int) := by
  rcases tk_cut k with e | ⟨j, h1, h2, h3, h4, h5⟩
  · have := h.1; have := h.2.1; omega
  · have hj : j = k.length := by have := h.2.1; omega
    have := h4 r
    rw [hj, List.take_length] at this
    unfold tk
    rw [this]
    exact h.2.1
theorem rkids_loop (l : List S32) (ok : ∀ n ∈ l, Ok2 n) (hl : l.length ≤ 100) (hf : ∀ n ∈ l, Fits n) : ∀ (ks : List (List S32)) (m : Nat) (acc : List (List S32)), ks.flatten = l.drop m → (∀ k ∈ ks, Arr k) → m ≤ l.length → acc.length ≤ m →
    Ev (fun k => deckleref10_Kids.l0 k l acc (m : Int)) (acc ++ ks) := by
  intro ks
  induction ks with
  | nil =>
    intro m acc h1 h2 h3 h4
    have hz : (l.drop m).length = 0 := by rw [← h1]; rfl
    rw [List.length_drop] at hz
    refine Ev.succ ?_
    simp only [deckleref10_Kids.l0, if_neg (show ¬ ((m : Int) < (l.length : Int)) by omega), List.append_nil]
    exact Ev.const _
  | cons x ks ih =>
    intro m acc h1 h2 h3 h4
    have hx := h2 x List.mem_cons_self
    have hx1 := hx.1
    have ht := arr_first hx ks.flatten
    rw [List.flatten_cons] at h1
    rw [h1] at ht
    have hlen : x.length + ks.flatten.length = l.length - m := by rw [← List.length_append, h1, List.length_drop]
    have hw : wrap64 ((m : Int) + tk (l.drop m)) = ((m + x.length : Nat) : Int) := by rw [ht, w64 (by omega) (by omega)]; omega
    have hxe : (l.take (m + x.length)).drop m = x := by
      rw [List.drop_take, ← h1, show m + x.length - m = x.length by omega, List.take_left]
    have hd : ks.flatten = l.drop (m + x.length) := by
      rw [← List.drop_drop, ← h1, List.drop_left]
    have hm : ∀ n ∈ x, n ∈ l := fun n hn => List.mem_of_mem_drop (h1 ▸ List.mem_append_left _ hn)
    have hv := ih (m + x.length) (acc ++ [x]) hd (fun k hk => h2 k (List.mem_cons_of_mem _ hk)) (by omega) (by rw [List.length_append, List.length_singleton]; omega)
    rw [List.append_assoc, List.singleton_append] at hv
    refine Ev.succ ?_
    simp only [deckleref10_Kids.l0, if_pos (show ((m : Int) < (l.length : Int)) by omega), if_pos (show (0 : Int) ≤ (m : Int) by omega), if_pos (show ((m : Int) ≤ (l.length : Int)) by omega), Int.toNat_natCast]
    refine Ev.bind (rfirst_ev (l.drop m) (fun n hn => ok n (List.mem_of_mem_drop hn)) (by rw [List.length_drop]; omega)) ?_
    rw [show (walkS 0 0 [] 0 (l.drop m)).1 = tk (l.drop m) from rfl, hw]
    simp only [if_pos (show (m : Int) ≤ ((m + x.length : Nat) : Int) by omega), if_pos (show ((m + x.length : Nat) : Int) ≤ (l.length : Int) by omega), Int.toNat_natCast, hxe]
    refine Ev.bind (rcopy_ev x (by omega) (fun n hn => hf n (hm n hn))) ?_
    simp only [if_pos (show acc.length < 5864062014805 by omega)]
    exact hv
theorem kids_both (l : List S32) (ok2 : ∀ n ∈ l, Ok2 n) (hl : l.length ≤ 100) (hf : ∀ n ∈ l, Fits n) : ∃ ks : List (List S32), Ev (fun k => array_Kids.f k l) ks ∧ Ev (fun k => deckleref10_Kids.f k l) ks ∧ ks.length ≤ 100 ∧ ∀ x ∈ ks, x.length ≤ 100 ∧ ∀ n ∈ x, Fits n := by
  have ok : ∀ n ∈ l, Ok n := fun n hn => (ok2 n hn).1
  have hA := right_ev l ok (by omega)
  have hB := rright_ev l ok2 (by omega)
  have no : (∀ t : Bool, (t = rt l → t = true → (rd_T32 l 0).f0 ≠ 5)) → ∃ ks : List (List S32), Ev (fun k => array_Kids.f k l) ks ∧ Ev (fun k => deckleref10_Kids.f k l) ks ∧ ks.length ≤ 100 ∧ ∀ x ∈ ks, x.length ≤ 100 ∧ ∀ n ∈ x, Fits n := by
    intro hn
    refine ⟨[], ?_, ?_, by simp, by simp⟩
    · simp only [array_Kids.f]
      refine Ev.bind hA ?_
      have hj : Ev (fun k => array_Kids.j0 k l ([] : List (List S32)) true) [] := Ev.succ (by simp only [array_Kids.j0, if_true]; exact Ev.const _)
      cases h : rt l with
      | false => simp only [Bool.false_eq_true, if_false]; exact hj
      | true =>
        have hp : (0 : Int) < (l.length : Int) := by
          unfold rt at h
          by_cases g : (l.length : Int) > 0
          · exact g
          · rw [if_neg g] at h; exact absurd h (by simp)
        simp only [if_true, if_pos hp, show ((rd_T32 l 0).f0 != 5) = true from bne_iff_ne.mpr (hn true h.symm rfl)]
        exact hj
    · simp only [deckleref10_Kids.f]
      refine Ev.bind hB ?_
      have hj : Ev (fun k => deckleref10_Kids.j0 k l true) [] := Ev.succ (by simp only [deckleref10_Kids.j0, if_true]; exact Ev.const _)
      cases h : rt l with
      | false => simp only [Bool.false_eq_true, if_false]; exact hj
      | true =>
        have hp : (0 : Int) < (l.length : Int) := by
          unfold rt at h
          by_cases g : (l.length : Int) > 0
          · exact g
          · rw [if_neg g] at h; exact absurd h (by simp)
        simp only [if_true, if_pos hp, show ((rd_T32 l 0).f0 != 5) = true from bne_iff_ne.mpr (hn true h.symm rfl)]
        exact hj
  cases h : rt l with
  | false => exact no fun t e1 e2 => by rw [h] at e1; rw [e1] at e2; exact absurd e2 (by simp)
  | true =>
    cases l with
    | nil => unfold rt at h; simp at h
    | cons n r =>
      by_cases g5 : n.f0 = 5
      · have ht : tk (n :: r) = ((n :: r).length : Int) := by
          unfold rt at h
          rw [if_pos (by simp only [List.length_cons]; omega)] at h
          exact eq_of_beq h
        have hlen : ((n :: r).length : Int) = (r.length : Int) + 1 := by simp only [List.length_cons]; omega
        have hnf : ¬ (itm n < 0 ∨ wrap64 (0 + itm n) > 1048576 ∨ 16 ≤ ([] : List Int).length) := by
          intro g
          unfold tk at ht
          simp only [walkS, if_pos g] at ht
          omega
        have hit : 0 ≤ itm n := Int.not_lt.1 fun g => hnf (.inl g)
        have hit2 := itm_le n
        have hw : wrap64 (0 + itm n) = itm n := by
          clear hnf
          rw [Int.zero_add]; exact w64 (by omega) (by omega)
        have hw1 : wrap64 (((([] : List Int).length : Nat) : Int) + 1) = 1 := by
          clear hnf hw
          simp only [List.length_nil]; exact w64 (by omega) (by omega)
        have hm : mx 0 1 = 1 := mx_eq (by omega) (by omega) (.inr rfl)
        have hwalk : walkS 0 0 [] 0 (n :: r) = fin (itm n) 1 (clr (push [] n)) (0 + 1) r := by rw [walkS_fin hnf, hw, hw1, hm]
        clear hnf hw hw1
        rw [h] at hA hB
        have hrd : rd_T32 (n :: r) 0 = n := rfl
        have hpos : (0 : Int) < ((n :: r).length : Int) := by omega
        have hp : push [] n = [itm n] := by unfold push; rw [if_pos g5]
        rw [hp] at hwalk
        have okr : ∀ y ∈ r, Ok y := fun y hy => ok y (List.mem_cons_of_mem _ hy)
        have hfr : ∀ y ∈ r, Fits y := fun y hy => hf y (List.mem_cons_of_mem _ hy)
        obtain ⟨ks, k2, k3, k7⟩ : ∃ ks : List (List S32), ks.flatten = r ∧ (∀ k ∈ ks, Arr k) ∧ Ev (fun k => array_Kids.l0 k r []) ks := by
          by_cases hz : itm n = 0
          · rw [hz, clr_cons, if_pos rfl, show clr (decT []) = [] from clr_nil] at hwalk
            have hwalk2 : walkS 0 0 [] 0 (n :: r) = (0 + 1, 0, 1) := hwalk
            have h1 : tk (n :: r) = 1 := congrArg Prod.fst hwalk2
            have hr0 : r = [] := List.eq_nil_of_length_eq_zero (by omega)
            refine ⟨[], by rw [hr0]; rfl, by simp, ?_⟩
            rw [hr0]
            refine Ev.succ ?_
            simp only [array_Kids.l0, List.length_nil, if_neg (show ¬ (((0 : Nat) : Int) > 0) by decide)]
            exact Ev.const _
          · obtain ⟨m, hm1⟩ : ∃ m : Nat, itm n = ((m + 1 : Nat) : Int) := ⟨(itm n).toNat - 1, by omega⟩
            rw [clr_cons, if_neg hz, fin_cons (List.cons_ne_nil _ _), hm1] at hwalk
            have hwk : walkS ((m + 1 : Nat) : Int) (1 + 0) [((m + 1 : Nat) : Int)] 1 r = (1 + (r.length : Int), wI (n :: r), wD (n :: r)) := by
              have e1 : walkS 0 0 [] 0 (n :: r) = (tk (n :: r), wI (n :: r), wD (n :: r)) := rfl
              rw [e1, ht, hlen] at hwalk
              rw [Int.add_zero, Int.add_comm 1 (r.length : Int)]
              exact hwalk.symm
            have hrl : r.length ≤ 99 := by omega
            obtain ⟨ks, q1, q2, q3, q4, q5, q6, q7⟩ := kids_walk _ _ m r ((m + 1 : Nat) : Int) 0 1 [] (by omega) okr hfr (by omega) (by omega) (by omega) (by omega) (by omega) (by simp only [List.length_nil]; omega) hwk
            refine ⟨ks, q2, q3, ?_⟩
            rw [List.nil_append] at q7; exact q7
        have hks : ks.length ≤ r.length := by
          have := flat_count ks fun l hl => (k3 l hl).1
          rw [k2] at this; exact this
        refine ⟨ks, ?_, ?_, by omega, fun x hx => ⟨by have := flat_len ks x hx; rw [k2] at this; omega, mem_flat (by rw [k2]; exact hfr) x hx⟩⟩
        · simp only [array_Kids.f]
          refine Ev.bind hA ?_
          simp only [if_true, if_pos hpos, hrd, g5]
          refine Ev.succ ?_
          simp only [array_Kids.j0, show ((5 : Int) != 5) = false from rfl, Bool.false_eq_true, if_false, if_pos (show (1 : Int) ≤ ((n :: r).length : Int) by omega), List.drop_succ_cons, List.drop_zero]
          exact k7
        · simp only [deckleref10_Kids.f]
          refine Ev.bind hB ?_
          simp only [if_true, if_pos hpos, hrd, g5]
          refine Ev.succ ?_
          simp only [deckleref10_Kids.j0, show ((5 : Int) != 5) = false from rfl, Bool.false_eq_true, if_false]
          have := rkids_loop (n :: r) ok2 hl hf ks 1 [] (by rw [k2]; rfl) k3 (by simp only [List.length_cons]; omega) (by simp)
          exact this
      · exact no fun t e1 e2 => g5
theorem tells_loop (l l1 : List S32) (ks : List (List S32)) (ok : ∀ n ∈ l, Ok2 n) (hl : l.length ≤ 100) (hf : ∀ n ∈ l, Fits n) (hk : ks.length ≤ 100) (hx : ∀ x ∈ ks, x.length ≤ 100 ∧ ∀ n ∈ x, Fits n) :
    ∀ d i, i ≤ ks.length → ks.length - i = d → Ev (fun k => decklelaw10_ArrayTells.l0 k l l1 true ks ks (i : Int)) true := by
  intro d
  induction d with
  | zero =>
    intro i h1 h2
    obtain ⟨v1, a1, b1⟩ := items_both l ok hl
    obtain ⟨v2, a2, b2⟩ := depth_both l ok hl
    obtain ⟨v3, a3, b3⟩ := rank_both l ok hl
    have ok1 : ∀ n ∈ l, Ok n := fun n hn => (ok n hn).1
    refine Ev.succ ?_
    simp only [decklelaw10_ArrayTells.l0, if_neg (show ¬ ((i : Int) < (ks.length : Int)) by omega), copy_some l hl hf]
    refine Ev.bind (Ev.const _) ?_
    refine Ev.bind (rsame_q l l hl hf) ?_
    simp only [q_t (rfl : l = l), if_true]
    refine Ev.bind (right_ev l ok1 (by omega)) ?_
    refine Ev.bind (rright_ev l ok (by omega)) ?_
    simp only [BEq.rfl, if_true]
    refine Ev.bind (take_ev l ok1 (by omega)) ?_
    refine Ev.bind (rtake_ev l ok (by omega)) ?_
    simp only [if_true]
    refine Ev.bind a1 (Ev.bind b1 ?_)
    simp only [if_true]
    refine Ev.bind a2 (Ev.bind b2 ?_)
    simp only [if_true]
    refine Ev.bind a3 (Ev.bind b3 ?_)
    simp only [if_true]
    refine Ev.bind (same_q l l1 hl hf) (Ev.bind (rsame_q l l1 hl hf) ?_)
    simp only [BEq.rfl]
    exact Ev.const _
  | succ d ih =>
    intro i h1 h2
    have hi : i < ks.length := by omega
    have hm := hx ks[i] (List.getElem_mem _)
    refine Ev.succ ?_
    simp only [decklelaw10_ArrayTells.l0, if_pos (show ((i : Int) < (ks.length : Int)) by omega), if_pos (show (0 : Int) ≤ (i : Int) by omega), rdL_at ks i hi, ix hi (show ks.length ≤ 1099511627776 by omega)]
    refine Ev.bind (rsame_q ks[i] ks[i] hm.1 hm.2) ?_
    simp only [q_t (rfl : ks[i] = ks[i]), if_true]
    exact ih (i + 1) (by omega) (by omega)
theorem ok_of_wf {a : Int} (h : (Lit.int .i64 a).wf = true) : -9223372036854775808 ≤ a ∧ a ≤ 9223372036854775807 := by
  have e0 : IntKind.i64.min = -9223372036854775808 := by decide
  have e1 : IntKind.i64.max = 9223372036854775807 := by decide
  simp only [Lit.wf, Bool.and_eq_true, decide_eq_true_eq, e0, e1] at h
  exact h
theorem ArrayTells (l0 : List S32) (w0 : ∀ n ∈ l0, (Lit.int .i64 n.f0).wf = true ∧ (∀ x ∈ n.f1, (Lit.int .i64 x).wf = true) ∧ (∀ x ∈ n.f2, (Lit.int .i64 x).wf = true) ∧ ∀ x ∈ n.f3, (Lit.int .i64 x.f0).wf = true ∧ (Lit.int .i64 x.f1).wf = true)
    (l1 : List S32) (w1 : ∀ n ∈ l1, (Lit.int .i64 n.f0).wf = true ∧ (∀ x ∈ n.f1, (Lit.int .i64 x).wf = true) ∧ (∀ x ∈ n.f2, (Lit.int .i64 x).wf = true) ∧ ∀ x ∈ n.f3, (Lit.int .i64 x.f0).wf = true ∧ (Lit.int .i64 x.f1).wf = true) : ∃ k, decklelaw10_ArrayTells.f k l0 l1 = some true := by
  obtain ⟨b0, e0, f0⟩ := few_ev l0
  obtain ⟨b1, e1, f1⟩ := few_ev l1
  have skip : Ev (fun k => decklelaw10_ArrayTells.j0 k l0 l1 true true) true := Ev.succ (by simp only [decklelaw10_ArrayTells.j0, if_true]; exact Ev.const _)
  have main : Ev (fun k => decklelaw10_ArrayTells.f k l0 l1) true := by
    simp only [decklelaw10_ArrayTells.f]
    refine Ev.bind small_ev (Ev.bind e0 (Ev.bind e1 ?_))
    cases b0 with
    | false => simp only [Bool.false_eq_true, if_false]; exact skip
    | true =>
      simp only [if_true]
      cases b1 with
      | false => exact skip
      | true =>
        obtain ⟨hl, hf⟩ := f0 rfl
        have ok2 : ∀ n ∈ l0, Ok2 n := fun n hn => ⟨fun y hy => ok_of_wf ((w0 n hn).2.2.2 y hy).2, fun v hv => ok_of_wf ((w0 n hn).2.2.1 v hv), (hf n hn).2.1, (hf n hn).2.2⟩
        obtain ⟨ks, ha, hb, hk, hx⟩ := kids_both l0 ok2 hl hf
        refine Ev.succ ?_
        simp only [decklelaw10_ArrayTells.j0, Bool.not_true, Bool.false_eq_true, if_false]
        refine Ev.bind ha (Ev.bind hb ?_)
        simp only [if_true]
        exact tells_loop l0 l1 ks ok2 hl hf hk hx ks.length 0 (by omega) (by omega)
  exact main.get
end Go.Proofs.Ytgbmbcippldhnaa.Pure
