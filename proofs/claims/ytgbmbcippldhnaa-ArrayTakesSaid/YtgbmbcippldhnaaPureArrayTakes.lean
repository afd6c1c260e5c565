/- Of rows of arrays the first one is taken, and no beginning of an array is one: for all nodes. -/
import Derived.Test.YtgbmbcippldhnaaHArrayTakesx11
import Derived.KernelRfl
namespace Go.Proofs.Ytgbmbcippldhnaa.Pure
open Go.RowKit Go.Proofs.Ytgbmbcippldhnaa.HArrayTakes Go.Proofs.YtgbmbcippldhnaaW.PrintWords Go.Proofs.YtgbmbcippldhnaaW.PrintLast Go.Proofs.YtgbmbcippldhnaaW.PrintMore
set_option linter.unusedVariables false
set_option linter.unusedSimpArgs false

theorem w64 {n : Int} (h1 : -9223372036854775808 ≤ n) (h2 : n ≤ 9223372036854775807) : wrap64 n = n := by unfold wrap64; omega
theorem rd_at (b : List Int) (m : Nat) (h : m < b.length) : rd b (m : Int) = b[m] := by
  unfold rd
  rw [List.getD_eq_getElem?_getD, Int.toNat_natCast, List.getElem?_eq_getElem h]; rfl
theorem rdT_at (b : List S32) (m : Nat) (h : m < b.length) : rd_T32 b (m : Int) = b[m] := by
  unfold rd_T32
  rw [List.getD_eq_getElem?_getD, Int.toNat_natCast, List.getElem?_eq_getElem h]; rfl
/-- Told from some number of rounds on. -/
def Ev {α : Type} (g : Nat → Option α) (v : α) : Prop := ∃ k0, ∀ k, k0 ≤ k → g k = some v
theorem Ev.const {α : Type} (v : α) : Ev (fun _ => some v) v := ⟨0, fun _ _ => rfl⟩
theorem Ev.bind {α β : Type} {g : Nat → Option α} {F : Nat → α → Option β} {u : α} {v : β} (h : Ev g u) (h2 : Ev (fun k => F k u) v) : Ev (fun k => (g k).bind (F k)) v := by
  obtain ⟨a, ha⟩ := h
  obtain ⟨b, hb⟩ := h2
  exact ⟨a + b, fun k hk => by show (g k).bind (F k) = some v; rw [ha k (by omega), Option.bind_some]; exact hb k (by omega)⟩
theorem Ev.succ {α : Type} {g : Nat → Option α} {v : α} (h : Ev (fun k => g (k + 1)) v) : Ev g v := by
  obtain ⟨a, ha⟩ := h
  refine ⟨a + 1, fun k hk => ?_⟩
  obtain ⟨j, rfl⟩ : ∃ j, k = j + 1 := ⟨k - 1, by omega⟩
  exact ha j (by omega)
theorem Ev.uniq {α : Type} {g : Nat → Option α} {u v : α} (h : Ev g u) (h2 : Ev g v) : u = v := by
  obtain ⟨a, ha⟩ := h
  obtain ⟨b, hb⟩ := h2
  exact Option.some.inj ((ha (a + b) (by omega)).symm.trans (hb (a + b) (by omega)))
theorem Ev.get {α : Type} {g : Nat → Option α} {v : α} (h : Ev g v) : ∃ k, g k = some v := by
  obtain ⟨a, ha⟩ := h
  exact ⟨a, ha a (Nat.le_refl _)⟩
/-- What a loop over an index needs. -/
theorem ix {i n : Nat} (h : i < n) (hn : n ≤ 1099511627776) : wrap64 ((i : Int) + 1) = ((i + 1 : Nat) : Int) := by rw [w64 (by omega) (by omega)]; omega
theorem count1_some (a : Int) : ∃ t, shape_Count_1.f a = some t ∧ (t = false → 0 ≤ a ∧ a ≤ 1048576) := by
  unfold shape_Count_1.f
  by_cases h : a < 0
  · exact ⟨true, if_pos h, by simp⟩
  · refine ⟨decide (a > 1048576), if_neg h, fun e => ?_⟩
    have := of_decide_eq_false e
    omega
theorem index1_ev (l : List Int) (hl : l.length ≤ 1099511627776) : ∀ d i, i ≤ l.length → l.length - i = d → ∃ v, Ev (fun k => slices_IndexFunc_int_int.l0 k l (l.length : Int) (i : Int)) v := by
  intro d
  induction d with
  | zero =>
    intro i h1 h2
    refine ⟨-1, Ev.succ ?_⟩
    simp only [slices_IndexFunc_int_int.l0, if_neg (show ¬ ((i : Int) < (l.length : Int)) by omega)]
    exact Ev.const _
  | succ d ih =>
    intro i h1 h2
    have hi : i < l.length := by omega
    obtain ⟨t, ht, _⟩ := count1_some (rd l (i : Int))
    obtain ⟨v, hv⟩ := ih (i + 1) (by omega) (by omega)
    cases t with
    | true =>
      refine ⟨(i : Int), Ev.succ ?_⟩
      simp only [slices_IndexFunc_int_int.l0, if_pos (show ((i : Int) < (l.length : Int)) by omega), if_pos (show (0 : Int) ≤ (i : Int) by omega), ht]
      exact Ev.bind (Ev.const _) (Ev.const _)
    | false =>
      refine ⟨v, Ev.succ ?_⟩
      simp only [slices_IndexFunc_int_int.l0, if_pos (show ((i : Int) < (l.length : Int)) by omega), if_pos (show (0 : Int) ≤ (i : Int) by omega), ht, ix hi hl]
      exact Ev.bind (Ev.const _) hv
theorem index_ev (l : List Int) (a : Int) (hl : l.length ≤ 1099511627776) : ∀ d i, i ≤ l.length → l.length - i = d → ∃ v, Ev (fun k => slices_Index_int_int.l0 k l a (l.length : Int) (i : Int)) v := by
  intro d
  induction d with
  | zero =>
    intro i h1 h2
    refine ⟨-1, Ev.succ ?_⟩
    simp only [slices_Index_int_int.l0, if_neg (show ¬ ((i : Int) < (l.length : Int)) by omega)]
    exact Ev.const _
  | succ d ih =>
    intro i h1 h2
    have hi : i < l.length := by omega
    obtain ⟨v, hv⟩ := ih (i + 1) (by omega) (by omega)
    by_cases e : a = rd l (i : Int)
    · refine ⟨(i : Int), Ev.succ ?_⟩
      simp only [slices_Index_int_int.l0, if_pos (show ((i : Int) < (l.length : Int)) by omega), if_pos (show (0 : Int) ≤ (i : Int) by omega), if_pos e]
      exact Ev.const _
    · refine ⟨v, Ev.succ ?_⟩
      simp only [slices_Index_int_int.l0, if_pos (show ((i : Int) < (l.length : Int)) by omega), if_pos (show (0 : Int) ≤ (i : Int) by omega), if_neg e, ix hi hl]
      exact hv
theorem countl_ev (l : List Int) (hl : l.length ≤ 1099511627776) : ∀ d i x, i ≤ l.length → l.length - i = d → 0 ≤ x → x ≤ 1048576 → ∃ c b, Ev (fun k => shape_Count.l0 k x l (l.length : Int) (i : Int)) (c, b) ∧ 0 ≤ c ∧ c ≤ 1048576 := by
  intro d
  induction d with
  | zero =>
    intro i x h1 h2 hx0 hx1
    refine ⟨x, true, Ev.succ ?_, hx0, hx1⟩
    simp only [shape_Count.l0, if_neg (show ¬ ((i : Int) < (l.length : Int)) by omega)]
    exact Ev.const _
  | succ d ih =>
    intro i x h1 h2 hx0 hx1
    have hi : i < l.length := by omega
    obtain ⟨t, ht, hb⟩ := count1_some (wrap64 (x * rd l (i : Int)))
    cases t with
    | true =>
      refine ⟨0, false, Ev.succ ?_, by omega, by omega⟩
      simp only [shape_Count.l0, if_pos (show ((i : Int) < (l.length : Int)) by omega), if_pos (show (0 : Int) ≤ (i : Int) by omega), ht]
      exact Ev.bind (Ev.const _) (Ev.const _)
    | false =>
      obtain ⟨c, b, hv, h3⟩ := ih (i + 1) (wrap64 (x * rd l (i : Int))) (by omega) (by omega) (hb rfl).1 (hb rfl).2
      refine ⟨c, b, Ev.succ ?_, h3⟩
      simp only [shape_Count.l0, if_pos (show ((i : Int) < (l.length : Int)) by omega), if_pos (show (0 : Int) ≤ (i : Int) by omega), ht, ix hi hl]
      exact Ev.bind (Ev.const _) hv
theorem count_ev (l : List Int) : ∃ c b, Ev (fun k => shape_Count.f k l) (c, b) ∧ 0 ≤ c ∧ c ≤ 1048576 := by
  by_cases h : (l.length : Int) > 16
  · refine ⟨0, false, ?_, by omega, by omega⟩
    simp only [shape_Count.f, if_pos h]
    refine Ev.succ ?_
    simp only [shape_Count.j0]
    exact Ev.const _
  · have hl : l.length ≤ 1099511627776 := by omega
    obtain ⟨v1, e1⟩ := index1_ev l hl l.length 0 (by omega) (by omega)
    obtain ⟨v2, e2⟩ := index_ev l 0 hl l.length 0 (by omega) (by omega)
    obtain ⟨c, b, e3, hc⟩ := countl_ev l hl l.length 0 1 (by omega) (by omega) (by omega) (by omega)
    simp only [shape_Count.f, if_neg h, slices_ContainsFunc_int_int.f, slices_IndexFunc_int_int.f]
    have hf : ∀ t, ∃ c b, Ev (fun k => shape_Count.j0 k l t) (c, b) ∧ 0 ≤ c ∧ c ≤ 1048576 := by
      intro t
      cases t with
      | true =>
        refine ⟨0, false, Ev.succ ?_, by omega, by omega⟩
        simp only [shape_Count.j0]
        exact Ev.const _
      | false =>
        cases hd : decide (v2 ≥ 0) with
        | true =>
          refine ⟨0, true, Ev.succ ?_, by omega, by omega⟩
          simp only [shape_Count.j0, slices_Contains_int_int.f, slices_Index_int_int.f]
          refine Ev.bind (u := true) (Ev.bind e2 (by simp only [hd]; exact Ev.const _)) (Ev.const _)
        | false =>
          refine ⟨c, b, Ev.succ ?_, hc⟩
          simp only [shape_Count.j0, slices_Contains_int_int.f, slices_Index_int_int.f]
          exact Ev.bind (u := false) (Ev.bind e2 (by simp only [hd]; exact Ev.const _)) e3
    obtain ⟨c', b', e4, hc'⟩ := hf (decide (v1 ≥ 0))
    exact ⟨c', b', Ev.bind (Ev.bind e1 (Ev.const _)) e4, hc'⟩
theorem valid_ev (a : Int) : ∃ v, Ev (fun k => utf8_ValidRune.f k a) v := by
  have hj : ∀ t, ∃ v, Ev (fun k => utf8_ValidRune.j0 k a t) v := by
    intro t
    cases t with
    | true => exact ⟨true, Ev.succ (by simp only [utf8_ValidRune.j0]; exact Ev.const _)⟩
    | false =>
      by_cases h1 : 57343 < a
      · by_cases h2 : a ≤ 1114111
        · exact ⟨true, Ev.succ (by simp only [utf8_ValidRune.j0, if_pos h1, if_pos h2]; exact Ev.const _)⟩
        · exact ⟨false, Ev.succ (by simp only [utf8_ValidRune.j0, if_pos h1, if_neg h2]; exact Ev.const _)⟩
      · exact ⟨false, Ev.succ (by simp only [utf8_ValidRune.j0, if_neg h1]; exact Ev.const _)⟩
  by_cases h : 0 ≤ a
  · simp only [utf8_ValidRune.f, if_pos h]; exact hj _
  · simp only [utf8_ValidRune.f, if_neg h]; exact hj _
theorem fits_ev (a b : Int) : ∃ v, Ev (fun k => array_fits.f k a b) v := by
  by_cases h1 : a = 1
  · simp only [array_fits.f, if_pos h1]; exact ⟨_, Ev.const _⟩
  · by_cases h2 : a = 2
    · simp only [array_fits.f, if_neg h1, if_pos h2]; exact ⟨_, Ev.const _⟩
    · by_cases h3 : a = 3
      · by_cases h4 : b = wrap64 (wrap32 b)
        · obtain ⟨v, hv⟩ := valid_ev (wrap32 b)
          refine ⟨v, ?_⟩
          simp only [array_fits.f, if_neg h1, if_neg h2, if_pos h3, if_pos h4]
          exact Ev.bind hv (Ev.const _)
        · simp only [array_fits.f, if_neg h1, if_neg h2, if_pos h3, if_neg h4]; exact ⟨_, Ev.const _⟩
      · simp only [array_fits.f, if_neg h1, if_neg h2, if_neg h3]; exact ⟨_, Ev.const _⟩
theorem wrongs_ev (l : List Int) (a : Int) (hl : l.length ≤ 1099511627776) : ∀ d i, i ≤ l.length → l.length - i = d → ∃ v, Ev (fun k => array_wrongs_int.l0 k a l (l.length : Int) (i : Int)) v := by
  intro d
  induction d with
  | zero =>
    intro i h1 h2
    refine ⟨false, Ev.succ ?_⟩
    simp only [array_wrongs_int.l0, if_neg (show ¬ ((i : Int) < (l.length : Int)) by omega)]
    exact Ev.const _
  | succ d ih =>
    intro i h1 h2
    have hi : i < l.length := by omega
    obtain ⟨t, ht⟩ := fits_ev a (rd l (i : Int))
    obtain ⟨v, hv⟩ := ih (i + 1) (by omega) (by omega)
    cases t with
    | true =>
      refine ⟨v, Ev.succ ?_⟩
      simp only [array_wrongs_int.l0, if_pos (show ((i : Int) < (l.length : Int)) by omega), if_pos (show (0 : Int) ≤ (i : Int) by omega), array_items_1.f, ix hi hl]
      exact Ev.bind (u := true) (Ev.bind ht (Ev.const _)) hv
    | false =>
      refine ⟨true, Ev.succ ?_⟩
      simp only [array_wrongs_int.l0, if_pos (show ((i : Int) < (l.length : Int)) by omega), if_pos (show (0 : Int) ≤ (i : Int) by omega), array_items_1.f]
      exact Ev.bind (u := false) (Ev.bind ht (Ev.const _)) (Ev.const _)
theorem norm_ev : ∀ (d : Nat) (x e : Int), -9223372036854775808 ≤ e → e ≤ 9223372036854775807 → (32768 - e).toNat ≤ d → ∃ v, Ev (fun k => decimal_Norm.l0 k x e) v := by
  intro d
  induction d with
  | zero =>
    intro x e h1 h2 h3
    have h4 : ¬ e ≤ 32767 := by omega
    have h5 : ¬ e < -32768 := by omega
    have h6 : e > 32767 := by omega
    refine ⟨(0, 0, false), Ev.succ ?_⟩
    by_cases h : Int.tmod x 10 = 0
    · simp only [decimal_Norm.l0, if_pos h, if_neg h4, if_neg h5, if_pos h6]; exact Ev.const _
    · simp only [decimal_Norm.l0, if_neg h, if_neg h5, if_pos h6]; exact Ev.const _
  | succ d ih =>
    intro x e h1 h2 h3
    have hl : ∃ v : Int × Int × Bool, (if e < -32768 then some (0, 0, false) else if e > 32767 then some (0, 0, false) else some (x, e, true)) = some v := by
      split
      · exact ⟨_, rfl⟩
      · split <;> exact ⟨_, rfl⟩
    obtain ⟨v, hv⟩ := hl
    by_cases h : Int.tmod x 10 = 0
    · by_cases h4 : e ≤ 32767
      · have hw : wrap64 (e + 1) = e + 1 := w64 (by omega) (by omega)
        obtain ⟨v', hv'⟩ := ih (wrap64 (Int.tdiv x 10)) (wrap64 (e + 1)) (by omega) (by omega) (by omega)
        refine ⟨v', Ev.succ ?_⟩
        simp only [decimal_Norm.l0, if_pos h, if_pos h4]; exact hv'
      · refine ⟨v, Ev.succ ?_⟩
        simp only [decimal_Norm.l0, if_pos h, if_neg h4, hv]; exact Ev.const _
    · refine ⟨v, Ev.succ ?_⟩
      simp only [decimal_Norm.l0, if_neg h, hv]; exact Ev.const _
def OkD (y : S41) : Prop := -9223372036854775808 ≤ y.f1 ∧ y.f1 ≤ 9223372036854775807
def Ok (n : S32) : Prop := ∀ y ∈ n.f3, OkD y
theorem decright_ev (y : S41) (h : OkD y) : ∃ v, Ev (fun k => decimal_Right.f k y.f0 y.f1) v := by
  have hn : ∃ v, Ev (fun k => decimal_Norm.f k y.f0 y.f1) v := by
    by_cases h0 : y.f0 = 0
    · simp only [decimal_Norm.f, if_pos h0]; exact ⟨_, Ev.const _⟩
    · simp only [decimal_Norm.f, if_neg h0]; exact norm_ev _ y.f0 y.f1 h.1 h.2 (Nat.le_refl _)
  obtain ⟨⟨a, b, c⟩, hv⟩ := hn
  cases c with
  | true => exact ⟨_, Ev.bind hv (Ev.const _)⟩
  | false => exact ⟨_, Ev.bind hv (Ev.const _)⟩
theorem decs_ev (l : List S41) (ok : ∀ y ∈ l, OkD y) (hl : l.length ≤ 1099511627776) : ∀ d i, i ≤ l.length → l.length - i = d → ∃ v, Ev (fun k => api_Dec_55.l0 k l (l.length : Int) (i : Int)) v := by
  intro d
  induction d with
  | zero =>
    intro i h1 h2
    refine ⟨false, Ev.succ ?_⟩
    simp only [api_Dec_55.l0, if_neg (show ¬ ((i : Int) < (l.length : Int)) by omega)]
    exact Ev.const _
  | succ d ih =>
    intro i h1 h2
    have hi : i < l.length := by omega
    have hr : rd_T41 l (i : Int) = l[i] := by
      unfold rd_T41
      rw [List.getD_eq_getElem?_getD, Int.toNat_natCast, List.getElem?_eq_getElem hi]; rfl
    obtain ⟨t, ht⟩ := decright_ev (rd_T41 l (i : Int)) (by rw [hr]; exact ok _ (List.getElem_mem _))
    obtain ⟨v, hv⟩ := ih (i + 1) (by omega) (by omega)
    cases t with
    | true =>
      refine ⟨v, Ev.succ ?_⟩
      simp only [api_Dec_55.l0, if_pos (show ((i : Int) < (l.length : Int)) by omega), if_pos (show (0 : Int) ≤ (i : Int) by omega), ix hi hl]
      exact Ev.bind ht hv
    | false =>
      refine ⟨true, Ev.succ ?_⟩
      simp only [api_Dec_55.l0, if_pos (show ((i : Int) < (l.length : Int)) by omega), if_pos (show (0 : Int) ≤ (i : Int) by omega)]
      exact Ev.bind ht (Ev.const _)
theorem items1_ev (x3 x5 x6 a a' : Int) (b c : List Int) (e : List S41) (ok : ∀ y ∈ e, OkD y) (h0 : 0 ≤ x3) (h1 : x3 ≤ 1048576) (h5 : x5 ≤ 1048576) (h6 : x6 ≤ 1048576) :
    ∃ v, Ev (fun k => array_items.j1 k x3 x5 x6 a a' b c e) v ∧ -1 ≤ v ∧ v ≤ 1048576 := by
  by_cases g1 : (c.length : Int) = x5
  · by_cases g2 : (e.length : Int) = x6
    · obtain ⟨t, ht⟩ := wrongs_ev c a (by omega) c.length 0 (by omega) (by omega)
      obtain ⟨s, hs⟩ := decs_ev e ok (by omega) e.length 0 (by omega) (by omega)
      cases t with
      | true =>
        refine ⟨-1, Ev.succ ?_, by omega, by omega⟩
        simp only [array_items.j1, if_pos g1, if_pos g2, array_wrongs_int.f]
        exact Ev.bind ht (Ev.const _)
      | false =>
        cases s with
        | true =>
          refine ⟨-1, Ev.succ ?_, by omega, by omega⟩
          simp only [array_items.j1, if_pos g1, if_pos g2, array_wrongs_int.f, api_Dec_55.f]
          exact Ev.bind ht (Ev.bind hs (Ev.const _))
        | false =>
          refine ⟨x3, Ev.succ ?_, by omega, by omega⟩
          simp only [array_items.j1, if_pos g1, if_pos g2, array_wrongs_int.f, api_Dec_55.f]
          exact Ev.bind ht (Ev.bind hs (Ev.const _))
    · refine ⟨-1, Ev.succ ?_, by omega, by omega⟩
      simp only [array_items.j1, if_pos g1, if_neg g2]; exact Ev.const _
  · refine ⟨-1, Ev.succ ?_, by omega, by omega⟩
    simp only [array_items.j1, if_neg g1]; exact Ev.const _
theorem items0_ev (x3 a a' : Int) (t : Bool) (b c : List Int) (e : List S41) (ok : ∀ y ∈ e, OkD y) (h0 : 0 ≤ x3) (h1 : x3 ≤ 1048576) :
    ∃ v, Ev (fun k => array_items.j0 k x3 0 0 a t a' b c e) v ∧ -1 ≤ v ∧ v ≤ 1048576 := by
  cases t with
  | true =>
    obtain ⟨v, hv, hb⟩ := items1_ev x3 x3 0 a a' b c e ok h0 h1 h1 (by omega)
    exact ⟨v, Ev.succ (by simp only [array_items.j0]; exact hv), hb⟩
  | false =>
    by_cases g1 : a = 4
    · obtain ⟨v, hv, hb⟩ := items1_ev x3 0 x3 a a' b c e ok h0 h1 (by omega) h1
      exact ⟨v, Ev.succ (by simp only [array_items.j0, if_pos g1]; exact hv), hb⟩
    · by_cases g2 : a = 5
      · obtain ⟨v, hv, hb⟩ := items1_ev x3 0 0 a a' b c e ok h0 h1 (by omega) (by omega)
        exact ⟨v, Ev.succ (by simp only [array_items.j0, if_neg g1, if_pos g2]; exact hv), hb⟩
      · exact ⟨-1, Ev.succ (by simp only [array_items.j0, if_neg g1, if_neg g2]; exact Ev.const _), by omega, by omega⟩
theorem items_ev (n : S32) (ok : Ok n) : ∃ v, Ev (fun k => array_items.f k n.f0 n.f1 n.f2 n.f3) v ∧ -1 ≤ v ∧ v ≤ 1048576 := by
  obtain ⟨c, b, hc, h0, h1⟩ := count_ev n.f1
  cases b with
  | true =>
    have hr : ∃ v, Ev (fun k => (if n.f0 = 1 then (array_items.j0 k c 0 0 n.f0 (n.f0 == 1) n.f0 n.f1 n.f2 n.f3) else (if n.f0 = 2 then (array_items.j0 k c 0 0 n.f0 (n.f0 == 2) n.f0 n.f1 n.f2 n.f3) else (array_items.j0 k c 0 0 n.f0 (n.f0 == 3) n.f0 n.f1 n.f2 n.f3)))) v ∧ -1 ≤ v ∧ v ≤ 1048576 := by
      by_cases g1 : n.f0 = 1
      · simp only [if_pos g1]; exact items0_ev c _ _ _ _ _ _ ok h0 h1
      · by_cases g2 : n.f0 = 2
        · simp only [if_neg g1, if_pos g2]; exact items0_ev c _ _ _ _ _ _ ok h0 h1
        · simp only [if_neg g1, if_neg g2]; exact items0_ev c _ _ _ _ _ _ ok h0 h1
    obtain ⟨v, hv, hb⟩ := hr
    refine ⟨v, ?_, hb⟩
    simp only [array_items.f]
    exact Ev.bind hc hv
  | false =>
    refine ⟨-1, ?_, by omega, by omega⟩
    simp only [array_items.f]
    exact Ev.bind hc (Ev.const _)
/-- How many items a node has; -1: it is not right. -/
noncomputable def itm (n : S32) : Int := open Classical in if h : ∃ v, Ev (fun k => array_items.f k n.f0 n.f1 n.f2 n.f3) v then h.choose else -1
theorem itm_ev (n : S32) (ok : Ok n) : Ev (fun k => array_items.f k n.f0 n.f1 n.f2 n.f3) (itm n) ∧ -1 ≤ itm n ∧ itm n ≤ 1048576 := by
  obtain ⟨v, hv, hb⟩ := items_ev n ok
  have h : ∃ v, Ev (fun k => array_items.f k n.f0 n.f1 n.f2 n.f3) v := ⟨v, hv⟩
  have e : itm n = v := by
    unfold itm
    rw [dif_pos h]
    exact Ev.uniq h.choose_spec hv
  rw [e]
  exact ⟨hv, hb⟩

/-! ### the walk, on a stack whose top stands first -/
def dec1 (v : Int) : Int := wrap64 (v - 1)
def decT : List Int → List Int
  | [] => []
  | x :: s => dec1 x :: s
theorem decT_length (s : List Int) : (decT s).length = s.length := by cases s <;> rfl
def clrN : Nat → List Int → List Int
  | 0, s => s
  | _ + 1, [] => []
  | n + 1, x :: s => if x = 0 then clrN n (decT s) else x :: s
def clr (s : List Int) : List Int := clrN s.length s
theorem clr_nil : clr [] = [] := rfl
theorem clr_cons (x : Int) (s : List Int) : clr (x :: s) = if x = 0 then clr (decT s) else x :: s := by
  unfold clr
  rw [decT_length]; rfl
theorem clr_length : ∀ (n : Nat) (s : List Int), s.length ≤ n → (clr s).length ≤ s.length := by
  intro n
  induction n with
  | zero =>
    intro s hs
    obtain rfl := List.eq_nil_of_length_eq_zero (Nat.le_zero.1 hs)
    exact Nat.le_refl _
  | succ n ih =>
    intro s hs
    cases s with
    | nil => exact Nat.le_refl _
    | cons x s =>
      rw [clr_cons]
      split
      · have := ih (decT s) (by rw [decT_length]; simp only [List.length_cons] at hs; omega)
        rw [decT_length] at this
        simp only [List.length_cons]; omega
      · exact Nat.le_refl _
noncomputable def push (st : List Int) (n : S32) : List Int := if n.f0 = 5 then itm n :: st else decT st
theorem push_length (st : List Int) (n : S32) : (push st n).length ≤ st.length + 1 := by
  unfold push
  split
  · exact Nat.le_refl _
  · rw [decT_length]; omega
open Classical in
noncomputable def walkS : Int → Int → List Int → Int → List S32 → Int × Int × Int
  | _, _, _, _, [] => (0, 0, 0)
  | all, deep, st, i, n :: r =>
    if itm n < 0 ∨ wrap64 (all + itm n) > 1048576 ∨ 16 ≤ st.length then (0, 0, 0)
    else if clr (push st n) = [] then (i + 1, wrap64 (all + itm n), mx deep (wrap64 ((st.length : Int) + 1)))
    else walkS (wrap64 (all + itm n)) (mx deep (wrap64 ((st.length : Int) + 1))) (clr (push st n)) (i + 1) r
theorem last_ix {n : Nat} (h : 0 < n) (hn : n ≤ 1099511627776) : wrap64 ((n : Int) - 1) = ((n - 1 : Nat) : Int) := by rw [w64 (by omega) (by omega)]; omega
theorem rev_last (x : Int) (s : List Int) : rd (x :: s).reverse ((s.length : Nat) : Int) = x := by
  rw [rd_at _ _ (by simp)]
  simp
theorem rev_set (x v : Int) (s : List Int) : (x :: s).reverse.set s.length v = (v :: s).reverse := by
  simp only [List.reverse_cons]
  rw [List.set_append_right _ _ (by simp)]
  simp
theorem rev_take (x : Int) (s : List Int) : (x :: s).reverse.take s.length = s.reverse := by
  rw [List.reverse_cons]
  rw [List.take_append_of_le_length (by simp)]
  exact List.take_of_length_le (by simp)
theorem pop_ev (all deep i6 : Int) (x9 : List S32) (x10 x11 : Int) (v : Int × Int × Int) : ∀ (n : Nat) (st : List Int), st.length ≤ n → st.length ≤ 100 →
    Ev (fun k => array_walk.j4 k all deep (clr st).reverse i6 x9 x10 x11 false) v → Ev (fun k => array_walk.l1 k all deep st.reverse i6 x9 x10 x11) v := by
  intro n
  induction n with
  | zero =>
    intro st hs hc h
    obtain rfl := List.eq_nil_of_length_eq_zero (Nat.le_zero.1 hs)
    refine Ev.succ ?_
    simp only [array_walk.l1, List.reverse_nil, List.length_nil, if_neg (show ¬ (((0 : Nat) : Int) > 0) by decide)]
    exact h
  | succ n ih =>
    intro st hs hc h
    cases st with
    | nil =>
      refine Ev.succ ?_
      simp only [array_walk.l1, List.reverse_nil, List.length_nil, if_neg (show ¬ (((0 : Nat) : Int) > 0) by decide)]
      exact h
    | cons x s =>
      simp only [List.length_cons] at hs hc
      have hL : (x :: s).reverse.length = s.length + 1 := by simp
      have hw : wrap64 (((s.length + 1 : Nat) : Int) - 1) = ((s.length : Nat) : Int) := last_ix (by omega) (by omega)
      refine Ev.succ ?_
      simp only [array_walk.l1, hL, hw, if_pos (show (((s.length + 1 : Nat) : Int) > 0) by omega), if_pos (show (0 : Int) ≤ ((s.length : Nat) : Int) by omega), if_pos (show ((s.length : Nat) : Int) < ((s.length + 1 : Nat) : Int) by omega), rev_last]
      rw [clr_cons] at h
      by_cases e : x = 0
      · rw [if_pos e] at h
        subst e
        refine Ev.succ ?_
        simp only [array_walk.j4, hL, hw, BEq.rfl, if_true, if_pos (show (0 : Int) ≤ ((s.length : Nat) : Int) by omega), if_pos (show ((s.length : Nat) : Int) ≤ ((s.length + 1 : Nat) : Int) by omega), Int.toNat_natCast, rev_take, Option.bind_some, List.length_reverse]
        cases s with
        | nil =>
          simp only [List.length_nil, if_neg (show ¬ (((0 : Nat) : Int) > 0) by decide)]
          exact ih [] (by simp) (by simp) h
        | cons y s =>
          have hw2 : wrap64 (((s.length + 1 : Nat) : Int) - 1) = ((s.length : Nat) : Int) := last_ix (by omega) (by simp only [List.length_cons] at hc; omega)
          simp only [List.length_cons, hw2, if_pos (show (((s.length + 1 : Nat) : Int) > 0) by omega), if_pos (show (0 : Int) ≤ ((s.length : Nat) : Int) by omega), if_pos (show ((s.length : Nat) : Int) < ((s.length + 1 : Nat) : Int) by omega), rev_last, Int.toNat_natCast, rev_set]
          exact ih (dec1 y :: s) (by simp only [List.length_cons] at hs ⊢; omega) (by simp only [List.length_cons] at hc ⊢; omega) h
      · rw [if_neg e] at h
        rw [show (x == 0) = false from beq_eq_false_iff_ne.mpr e]
        exact h
theorem walk_ev (l : List S32) (ok : ∀ n ∈ l, Ok n) (hl : l.length ≤ 1099511627776) : ∀ d i, i ≤ l.length → l.length - i = d → ∀ (all deep : Int) (st : List Int), st.length ≤ 17 →
    Ev (fun k => array_walk.l0 k all deep st.reverse l (l.length : Int) (i : Int)) (walkS all deep st (i : Int) (l.drop i)) := by
  intro d
  induction d with
  | zero =>
    intro i h1 h2 all deep st hs
    have hd : l.drop i = [] := List.drop_eq_nil_of_le (by omega)
    rw [hd]
    refine Ev.succ ?_
    simp only [array_walk.l0, if_neg (show ¬ ((i : Int) < (l.length : Int)) by omega)]
    exact Ev.const _
  | succ d ih =>
    intro i h1 h2 all deep st hs
    have hi : i < l.length := by omega
    have hd : l.drop i = l[i] :: l.drop (i + 1) := (List.drop_eq_getElem_cons hi)
    rw [hd]
    generalize hn : l[i] = n
    have okn : Ok n := by rw [← hn]; exact ok _ (List.getElem_mem _)
    obtain ⟨hit, hb0, hb1⟩ := itm_ev n okn
    have hrd : rd_T32 l (i : Int) = n := by rw [rdT_at l i hi, hn]
    have hfail : ∀ (a b : Int), Ev (fun k => array_walk.j1 k (wrap64 (all + itm n)) deep st.reverse (i : Int) (itm n) l (l.length : Int) (i : Int) true n.f0 n.f1 n.f2 n.f3) (0, 0, 0) := fun _ _ => Ev.succ (by simp only [array_walk.j1]; exact Ev.const _)
    have hgo : st.length < 16 → Ev (fun k => array_walk.j2 k (wrap64 (all + itm n)) (mx deep (wrap64 ((st.length : Int) + 1))) (push st n).reverse (i : Int) l (l.length : Int) (i : Int))
        (if clr (push st n) = [] then ((i : Int) + 1, wrap64 (all + itm n), mx deep (wrap64 ((st.length : Int) + 1))) else walkS (wrap64 (all + itm n)) (mx deep (wrap64 ((st.length : Int) + 1))) (clr (push st n)) ((i : Int) + 1) (l.drop (i + 1))) := by
      intro hst
      refine Ev.succ ?_
      simp only [array_walk.j2]
      have hp := push_length st n
      refine pop_ev _ _ _ _ _ _ _ (push st n).length (push st n) (Nat.le_refl _) (by omega) ?_
      refine Ev.succ ?_
      simp only [array_walk.j4, Bool.false_eq_true, if_false, List.length_reverse]
      have hcl := clr_length (push st n).length (push st n) (Nat.le_refl _)
      by_cases e : clr (push st n) = []
      · simp only [e, List.length_nil, if_pos (show (((0 : Nat) : Int)) = 0 by rfl), if_true]
        rw [show wrap64 ((i : Int) + 1) = (i : Int) + 1 by rw [ix hi hl]; omega]
        exact Ev.const _
      · have hz : ¬ (((clr (push st n)).length : Int) = 0) := fun h0 => e (List.eq_nil_of_length_eq_zero (by omega))
        simp only [if_neg e, if_neg hz, ix hi hl]
        have hi1 : ((i : Int) + 1) = ((i + 1 : Nat) : Int) := by omega
        rw [hi1]
        exact ih (i + 1) (by omega) (by omega) _ _ _ (by omega)
    refine Ev.succ ?_
    simp only [array_walk.l0, if_pos (show ((i : Int) < (l.length : Int)) by omega), if_pos (show (0 : Int) ≤ (i : Int) by omega), hrd]
    refine Ev.bind hit ?_
    by_cases g1 : itm n < 0
    · simp only [walkS, if_pos g1, if_pos (show itm n < 0 ∨ wrap64 (all + itm n) > 1048576 ∨ 16 ≤ st.length from .inl g1)]
      exact hfail 0 0
    · by_cases g2 : wrap64 (all + itm n) > 1048576
      · simp only [walkS, if_neg g1, if_pos g2, if_pos (show itm n < 0 ∨ wrap64 (all + itm n) > 1048576 ∨ 16 ≤ st.length from .inr (.inl g2))]
        exact hfail 0 0
      · simp only [if_neg g1, if_neg g2, List.length_reverse]
        by_cases g3 : 16 ≤ st.length
        · simp only [walkS, if_pos (show itm n < 0 ∨ wrap64 (all + itm n) > 1048576 ∨ 16 ≤ st.length from .inr (.inr g3)), decide_eq_true (show ((st.length : Int) ≥ 16) by omega)]
          exact hfail 0 0
        · simp only [walkS, if_neg (show ¬ (itm n < 0 ∨ wrap64 (all + itm n) > 1048576 ∨ 16 ≤ st.length) from fun h => h.elim g1 fun h => h.elim g2 g3), decide_eq_false (show ¬ ((st.length : Int) ≥ 16) by omega)]
          refine Ev.succ ?_
          simp only [array_walk.j1, Bool.false_eq_true, if_false, List.length_reverse]
          replace hgo := hgo (by omega)
          unfold push at hgo
          by_cases g5 : n.f0 = 5
          · simp only [if_pos g5] at hgo
            simp only [if_pos g5, if_pos (show st.length < 17592186044416 by omega)]
            unfold push
            simp only [if_pos g5]
            rw [List.reverse_cons] at hgo
            exact hgo
          · simp only [if_neg g5] at hgo ⊢
            unfold push
            simp only [if_neg g5]
            cases st with
            | nil => exact hgo
            | cons x s =>
              have hw : wrap64 (((s.length + 1 : Nat) : Int) - 1) = ((s.length : Nat) : Int) := last_ix (by omega) (by simp only [List.length_cons] at hs; omega)
              simp only [List.length_cons, hw, if_pos (show (((s.length + 1 : Nat) : Int) > 0) by omega), if_pos (show (0 : Int) ≤ ((s.length : Nat) : Int) by omega), if_pos (show ((s.length : Nat) : Int) < ((s.length + 1 : Nat) : Int) by omega), rev_last, Int.toNat_natCast, rev_set]
              simp only [List.length_cons] at hgo
              exact hgo

/-! ### what the walk says of beginnings -/
theorem walkS_cut : ∀ (r : List S32) (all deep : Int) (st : List Int) (i : Nat),
    (walkS all deep st (i : Int) r).1 = 0 ∨ ∃ j, 1 ≤ j ∧ j ≤ r.length ∧ (walkS all deep st (i : Int) r).1 = ((i + j : Nat) : Int) ∧ (∀ r', walkS all deep st (i : Int) (r.take j ++ r') = walkS all deep st (i : Int) r) ∧ ∀ m, m < j → walkS all deep st (i : Int) (r.take m) = (0, 0, 0) := by
  intro r
  induction r with
  | nil => intro all deep st i; exact .inl rfl
  | cons n r ih =>
    intro all deep st i
    by_cases g : itm n < 0 ∨ wrap64 (all + itm n) > 1048576 ∨ 16 ≤ st.length
    · left
      simp only [walkS, if_pos g]
    · by_cases e : clr (push st n) = []
      · right
        refine ⟨1, Nat.le_refl _, by simp, ?_, fun r' => ?_, fun m hm => ?_⟩
        · simp only [walkS, if_neg g, if_pos e]; omega
        · simp only [List.take_succ_cons, List.take_zero, List.cons_append, walkS, if_neg g, if_pos e]
        · obtain rfl : m = 0 := by omega
          simp only [List.take_zero, walkS]
      · have hi : ((i : Int) + 1) = ((i + 1 : Nat) : Int) := by omega
        rcases ih (wrap64 (all + itm n)) (mx deep (wrap64 ((st.length : Int) + 1))) (clr (push st n)) (i + 1) with h | ⟨j, h1, h2, h3, h4, h5⟩
        · left
          simp only [walkS, if_neg g, if_neg e, hi]; exact h
        · right
          refine ⟨j + 1, by omega, by simp only [List.length_cons]; omega, ?_, fun r' => ?_, fun m hm => ?_⟩
          · simp only [walkS, if_neg g, if_neg e, hi]; rw [h3]; omega
          · simp only [List.take_succ_cons, List.cons_append, walkS, if_neg g, if_neg e, hi]; exact h4 r'
          · cases m with
            | zero => simp only [List.take_zero, walkS]
            | succ m => simp only [List.take_succ_cons, walkS, if_neg g, if_neg e, hi]; exact h5 m (by omega)
/-- How many nodes the array has that stands first. -/
noncomputable def tk (l : List S32) : Int := (walkS 0 0 [] 0 l).1
theorem tk_cut (l : List S32) : tk l = 0 ∨ ∃ j, 1 ≤ j ∧ j ≤ l.length ∧ tk l = (j : Int) ∧ (∀ r', walkS 0 0 [] 0 (l.take j ++ r') = walkS 0 0 [] 0 l) ∧ ∀ m, m < j → tk (l.take m) = 0 := by
  rcases walkS_cut l 0 0 [] 0 with h | ⟨j, h1, h2, h3, h4, h5⟩
  · exact .inl h
  · refine .inr ⟨j, h1, h2, ?_, h4, fun m hm => ?_⟩
    · have := h3
      rw [Nat.zero_add] at this
      exact this
    · have := h5 m hm
      unfold tk
      exact congrArg Prod.fst this
theorem walkf_ev (l : List S32) (ok : ∀ n ∈ l, Ok n) (hl : l.length ≤ 1099511627776) : Ev (fun k => array_walk.f k l) (walkS 0 0 [] 0 l) := by
  have := walk_ev l ok hl l.length 0 (by omega) (by omega) 0 0 [] (by simp)
  simp only [array_walk.f]
  exact this
theorem take_ev (l : List S32) (ok : ∀ n ∈ l, Ok n) (hl : l.length ≤ 1099511627776) : Ev (fun k => array_Take.f k l) (tk l) := by
  simp only [array_Take.f]
  exact Ev.bind (walkf_ev l ok hl) (Ev.const _)
noncomputable def rt (l : List S32) : Bool := if (l.length : Int) > 0 then (tk l == (l.length : Int)) else false
theorem right_ev (l : List S32) (ok : ∀ n ∈ l, Ok n) (hl : l.length ≤ 1099511627776) : Ev (fun k => array_Right.f k l) (rt l) := by
  unfold rt
  by_cases h : (l.length : Int) > 0
  · simp only [array_Right.f, if_pos h]
    exact Ev.bind (take_ev l ok hl) (Ev.const _)
  · simp only [array_Right.f, if_neg h]
    exact Ev.const _
theorem ok_take {l : List S32} (ok : ∀ n ∈ l, Ok n) (m : Nat) : ∀ n ∈ l.take m, Ok n := fun n hn => ok n (List.mem_of_mem_take hn)
/-- Few nodes, with few items. -/
def Fits (n : S32) : Prop := n.f1.length ≤ 30 ∧ n.f2.length ≤ 300 ∧ n.f3.length ≤ 300
theorem few_loop (l : List S32) : ∀ d i, i ≤ l.length → i ≤ 200 → 200 - i = d → ∀ x : Int, 0 ≤ x → x ≤ 600 * (i : Int) →
    ∃ b, Ev (fun k => decklelaw10_Few.l0 k l x (i : Int)) b ∧ (b = true → l.length ≤ 100 ∧ ∀ n ∈ l.drop i, Fits n) := by
  intro d
  induction d with
  | zero =>
    intro i h1 h2 h3 x hx0 hx1
    by_cases hi : i < l.length
    · refine ⟨false, Ev.succ ?_, by simp⟩
      simp only [decklelaw10_Few.l0, if_pos (show ((i : Int) < (l.length : Int)) by omega), decide_eq_false (show ¬ ((i : Int) < 200) by omega)]
      refine Ev.succ ?_
      simp only [decklelaw10_Few.j1, Bool.false_eq_true, if_false, if_neg (show ¬ ((l.length : Int) ≤ 100) by omega)]
      exact Ev.const _
    · by_cases g : (l.length : Int) ≤ 100
      · refine ⟨decide (x ≤ 1000), Ev.succ ?_, fun _ => ⟨by omega, by rw [List.drop_eq_nil_of_le (by omega)]; simp⟩⟩
        simp only [decklelaw10_Few.l0, if_neg (show ¬ ((i : Int) < (l.length : Int)) by omega)]
        refine Ev.succ ?_
        simp only [decklelaw10_Few.j1, Bool.false_eq_true, if_false, if_pos g]
        exact Ev.const _
      · refine ⟨false, Ev.succ ?_, by simp⟩
        simp only [decklelaw10_Few.l0, if_neg (show ¬ ((i : Int) < (l.length : Int)) by omega)]
        refine Ev.succ ?_
        simp only [decklelaw10_Few.j1, Bool.false_eq_true, if_false, if_neg g]
        exact Ev.const _
  | succ d ih =>
    intro i h1 h2 h3 x hx0 hx1
    by_cases hi : i < l.length
    · have hrd : rd_T32 l (i : Int) = l[i] := rdT_at l i hi
      have hd : l.drop i = l[i] :: l.drop (i + 1) := (List.drop_eq_getElem_cons hi)
      rw [hd]
      generalize l[i] = n at hrd
      by_cases g1 : (n.f1.length : Int) > 30
      · refine ⟨false, Ev.succ ?_, by simp⟩
        simp only [decklelaw10_Few.l0, if_pos (show ((i : Int) < (l.length : Int)) by omega), decide_eq_true (show ((i : Int) < 200) by omega)]
        refine Ev.succ ?_
        simp only [decklelaw10_Few.j1, if_true, if_pos (show (0 : Int) ≤ (i : Int) by omega), if_pos (show ((i : Int) < (l.length : Int)) by omega), hrd, if_pos g1]
        exact Ev.const _
      · by_cases g2 : (n.f2.length : Int) > 300
        · refine ⟨false, Ev.succ ?_, by simp⟩
          simp only [decklelaw10_Few.l0, if_pos (show ((i : Int) < (l.length : Int)) by omega), decide_eq_true (show ((i : Int) < 200) by omega)]
          refine Ev.succ ?_
          simp only [decklelaw10_Few.j1, if_true, if_pos (show (0 : Int) ≤ (i : Int) by omega), if_pos (show ((i : Int) < (l.length : Int)) by omega), hrd, if_neg g1, if_pos g2]
          exact Ev.const _
        · by_cases g3 : (n.f3.length : Int) > 300
          · refine ⟨false, Ev.succ ?_, by simp⟩
            simp only [decklelaw10_Few.l0, if_pos (show ((i : Int) < (l.length : Int)) by omega), decide_eq_true (show ((i : Int) < 200) by omega)]
            refine Ev.succ ?_
            simp only [decklelaw10_Few.j1, if_true, if_pos (show (0 : Int) ≤ (i : Int) by omega), if_pos (show ((i : Int) < (l.length : Int)) by omega), hrd, if_neg g1, if_neg g2, if_pos g3]
            exact Ev.const _
          · have hw : wrap64 (wrap64 (x + (n.f2.length : Int)) + (n.f3.length : Int)) = x + (n.f2.length : Int) + (n.f3.length : Int) := by
              rw [w64 (n := x + (n.f2.length : Int)) (by omega) (by omega), w64 (by omega) (by omega)]
            have hw2 : wrap64 ((i : Int) + 1) = ((i + 1 : Nat) : Int) := by rw [w64 (by omega) (by omega)]; omega
            obtain ⟨b, hb, hb2⟩ := ih (i + 1) (by omega) (by omega) (by omega) (x + (n.f2.length : Int) + (n.f3.length : Int)) (by omega) (by omega)
            refine ⟨b, Ev.succ ?_, fun e => ⟨(hb2 e).1, fun y hy => ?_⟩⟩
            · simp only [decklelaw10_Few.l0, if_pos (show ((i : Int) < (l.length : Int)) by omega), decide_eq_true (show ((i : Int) < 200) by omega)]
              refine Ev.succ ?_
              simp only [decklelaw10_Few.j1, if_true, if_pos (show (0 : Int) ≤ (i : Int) by omega), if_pos (show ((i : Int) < (l.length : Int)) by omega), hrd, if_neg g1, if_neg g2, if_neg g3, hw, hw2]
              exact hb
            · rcases List.mem_cons.1 hy with rfl | hy
              · exact ⟨by omega, by omega, by omega⟩
              · exact (hb2 e).2 y hy
    · by_cases g : (l.length : Int) ≤ 100
      · refine ⟨decide (x ≤ 1000), Ev.succ ?_, fun _ => ⟨by omega, by rw [List.drop_eq_nil_of_le (by omega)]; simp⟩⟩
        simp only [decklelaw10_Few.l0, if_neg (show ¬ ((i : Int) < (l.length : Int)) by omega)]
        refine Ev.succ ?_
        simp only [decklelaw10_Few.j1, Bool.false_eq_true, if_false, if_pos g]
        exact Ev.const _
      · refine ⟨false, Ev.succ ?_, by simp⟩
        simp only [decklelaw10_Few.l0, if_neg (show ¬ ((i : Int) < (l.length : Int)) by omega)]
        refine Ev.succ ?_
        simp only [decklelaw10_Few.j1, Bool.false_eq_true, if_false, if_neg g]
        exact Ev.const _
theorem few_ev (l : List S32) : ∃ b, Ev (fun k => decklelaw10_Few.f k l) b ∧ (b = true → l.length ≤ 100 ∧ ∀ n ∈ l, Fits n) := by
  obtain ⟨b, hb, h2⟩ := few_loop l 200 0 (by omega) (by omega) rfl 0 (by omega) (by omega)
  exact ⟨b, hb, h2⟩
theorem copy_some (l : List S32) (h : l.length ≤ 100) (hf : ∀ n ∈ l, Fits n) : array_Copy.f l = some l := by
  unfold array_Copy.f
  rw [if_pos ⟨by omega, fun x hx => by have := hf x hx; unfold Fits at this; omega⟩]

theorem small_ev : Ev (fun k => decklelaw10_small.f k) true :=
  ⟨200, fun k hk => at_rounds (g := fun k => decklelaw10_small.f k) (fun k => decklelaw10_small.mono k) hk (by decide +kernel)⟩

theorem takes_loop (l : List S32) (ok : ∀ n ∈ l, Ok n) (hl : l.length ≤ 100) (t : Nat) (ht : tk l = (t : Int)) (htl : t ≤ l.length) (hz : ∀ m, m < t → tk (l.take m) = 0) : ∀ d i, i ≤ t → t - i = d →
    Ev (fun k => decklelaw10_ArrayTakes.l0 k l true (t : Int) (i : Int)) true := by
  intro d
  induction d with
  | zero =>
    intro i h1 h2
    refine Ev.succ ?_
    simp only [decklelaw10_ArrayTakes.l0, if_neg (show ¬ ((i : Int) < (t : Int)) by omega), if_true]
    refine Ev.bind (right_ev l ok (by omega)) ?_
    unfold rt
    rw [ht]
    by_cases g : (t : Int) > 0
    · simp only [if_pos g, if_pos (show (l.length : Int) > 0 by omega), BEq.rfl]
      exact Ev.const _
    · simp only [if_neg g]
      by_cases g2 : (l.length : Int) > 0
      · simp only [if_pos g2, show ((t : Int) == (l.length : Int)) = false from beq_eq_false_iff_ne.mpr (by omega), BEq.rfl]
        exact Ev.const _
      · simp only [if_neg g2, BEq.rfl]
        exact Ev.const _
  | succ d ih =>
    intro i h1 h2
    have hi : i < t := by omega
    have hw : wrap64 ((i : Int) + 1) = ((i + 1 : Nat) : Int) := by rw [w64 (by omega) (by omega)]; omega
    have h0 := hz i hi
    have hr : rt (l.take i) = false := by
      unfold rt
      by_cases g : ((l.take i).length : Int) > 0
      · rw [if_pos g, h0]
        exact beq_eq_false_iff_ne.mpr (by omega)
      · rw [if_neg g]
    refine Ev.succ ?_
    simp only [decklelaw10_ArrayTakes.l0, if_pos (show ((i : Int) < (t : Int)) by omega), if_pos (show (0 : Int) ≤ (i : Int) by omega), if_pos (show ((i : Int) ≤ (l.length : Int)) by omega), Int.toNat_natCast, hw]
    have ht1 := take_ev (l.take i) (ok_take ok i) (by rw [List.length_take]; omega)
    rw [h0] at ht1
    have ht2 := right_ev (l.take i) (ok_take ok i) (by rw [List.length_take]; omega)
    rw [hr] at ht2
    refine Ev.bind ht1 ?_
    simp only [if_true]
    refine Ev.bind ht2 ?_
    simp only [Bool.false_eq_true, if_false]
    exact ih (i + 1) (by omega) (by omega)
theorem ArrayTakes0 (l0 l1 : List S32) (ok0 : ∀ n ∈ l0, Ok n) (ok1 : ∀ n ∈ l1, Ok n) : ∃ k, decklelaw10_ArrayTakes.f k l0 l1 = some true := by
  obtain ⟨b0, e0, f0⟩ := few_ev l0
  obtain ⟨b1, e1, f1⟩ := few_ev l1
  have skip : Ev (fun k => decklelaw10_ArrayTakes.j0 k l0 l1 true true) true := by
    refine Ev.succ ?_
    simp only [decklelaw10_ArrayTakes.j0, if_true]
    exact Ev.const _
  have main : Ev (fun k => decklelaw10_ArrayTakes.f k l0 l1) true := by
    simp only [decklelaw10_ArrayTakes.f]
    refine Ev.bind small_ev (Ev.bind e0 (Ev.bind e1 ?_))
    cases b0 with
    | false => simp only [Bool.false_eq_true, if_false]; exact skip
    | true =>
      simp only [if_true]
      cases b1 with
      | false => exact skip
      | true =>
        obtain ⟨hl0, hf0⟩ := f0 rfl
        obtain ⟨hl1, hf1⟩ := f1 rfl
        have hj1 : ∀ t : Nat, tk l0 = (t : Int) → t ≤ l0.length → (∀ m, m < t → tk (l0.take m) = 0) → Ev (fun k => decklelaw10_ArrayTakes.j1 k l0 true (t : Int) false) true := by
          intro t h1 h2 h3
          refine Ev.succ ?_
          simp only [decklelaw10_ArrayTakes.j1, Bool.false_eq_true, if_false]
          exact takes_loop l0 ok0 hl0 t h1 h2 h3 t 0 (by omega) (by omega)
        refine Ev.succ ?_
        simp only [decklelaw10_ArrayTakes.j0, Bool.not_true, Bool.false_eq_true, if_false]
        refine Ev.bind (take_ev l0 ok0 (by omega)) ?_
        rcases tk_cut l0 with hz | ⟨j, h1, h2, h3, h4, h5⟩
        · simp only [hz, if_neg (show ¬ ((0 : Int) < 0) by decide), if_neg (show ¬ ((0 : Int) > (l0.length : Int)) by omega), if_neg (show ¬ ((0 : Int) > 0) by decide)]
          exact hj1 0 hz (by omega) (fun m hm => absurd hm (Nat.not_lt_zero _))
        · simp only [h3, if_neg (show ¬ ((j : Int) < 0) by omega), if_neg (show ¬ ((j : Int) > (l0.length : Int)) by omega), if_pos (show ((j : Int) > 0) by omega), if_pos (show (0 : Int) ≤ (j : Int) by omega), if_pos (show (j : Int) ≤ (l0.length : Int) by omega), Int.toNat_natCast, copy_some l0 hl0 hf0]
          have hjl : (l0.take j).length = j := by rw [List.length_take]; omega
          have ht : tk (l0.take j) = (j : Int) := by
            have := h4 []
            rw [List.append_nil] at this
            unfold tk at h3 ⊢
            rw [this]; exact h3
          have hr : rt (l0.take j) = true := by
            unfold rt
            rw [hjl, if_pos (by omega), ht]
            exact BEq.rfl
          have hap : tk (l0 ++ l1) = (j : Int) := by
            have := h4 (l0.drop j ++ l1)
            rw [← List.append_assoc, List.take_append_drop] at this
            unfold tk at h3 ⊢
            rw [this]; exact h3
          have e2 := right_ev (l0.take j) (ok_take ok0 j) (by rw [hjl]; omega)
          rw [hr] at e2
          have e3 := take_ev (l0 ++ l1) (fun n hn => (List.mem_append.1 hn).elim (ok0 n) (ok1 n)) (by rw [List.length_append]; omega)
          rw [hap] at e3
          refine Ev.bind e2 ?_
          simp only [if_true]
          refine Ev.bind (Ev.const _) ?_
          simp only [if_pos (show l0.length + l1.length < 1759218604441 by omega)]
          refine Ev.bind e3 ?_
          simp only [show ((j : Int) != (j : Int)) = false from bne_self_eq_false _]
          exact hj1 j h3 h2 h5
  exact main.get
theorem ok_of_wf {a : Int} (h : (Lit.int .i64 a).wf = true) : -9223372036854775808 ≤ a ∧ a ≤ 9223372036854775807 := by
  have e0 : IntKind.i64.min = -9223372036854775808 := by decide
  have e1 : IntKind.i64.max = 9223372036854775807 := by decide
  simp only [Lit.wf, Bool.and_eq_true, decide_eq_true_eq, e0, e1] at h
  exact h
theorem ArrayTakes (l0 : List S32) (w0 : ∀ n ∈ l0, ∀ y ∈ n.f3, (Lit.int .i64 y.f0).wf = true ∧ (Lit.int .i64 y.f1).wf = true) (l1 : List S32) (w1 : ∀ n ∈ l1, ∀ y ∈ n.f3, (Lit.int .i64 y.f0).wf = true ∧ (Lit.int .i64 y.f1).wf = true) : ∃ k, decklelaw10_ArrayTakes.f k l0 l1 = some true :=
  ArrayTakes0 l0 l1 (fun n hn y hy => ok_of_wf (w0 n hn y hy).2) (fun n hn y hy => ok_of_wf (w1 n hn y hy).2)

end Go.Proofs.Ytgbmbcippldhnaa.Pure
