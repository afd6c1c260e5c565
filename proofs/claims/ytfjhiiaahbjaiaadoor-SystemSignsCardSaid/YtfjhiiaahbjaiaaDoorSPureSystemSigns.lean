/- The variable of what is done at first may be any signs in a row, and no other one may: for all signs. -/
import Derived.Test.YtfjhiiaahbjaiaaDoorSSystemSignsx20
import Derived.KernelRfl
namespace Go.Proofs.YtfjhiiaahbjaiaaDoor.Pure
open Go.RowKit Go.Proofs.YtfjhiiaahbjaiaaDoor.HSystemSigns Go.Proofs.YtfjhiiaahbjaiaaDoorW.PrintWords Go.Proofs.YtfjhiiaahbjaiaaDoorW.PrintLast Go.Proofs.YtfjhiiaahbjaiaaDoorW.PrintMore
set_option linter.unusedVariables false
set_option linter.unusedSimpArgs false
theorem w64 {n : Int} (h1 : -9223372036854775808 ≤ n) (h2 : n ≤ 9223372036854775807) : wrap64 n = n := by unfold wrap64; omega
theorem rd_at (b : List Int) (m : Nat) (h : m < b.length) : rd b (m : Int) = b[m] := by
  unfold rd
  rw [List.getD_eq_getElem?_getD, Int.toNat_natCast, List.getElem?_eq_getElem h]; rfl
theorem rdT_at (b : List S32) (m : Nat) (h : m < b.length) : rd_T32 b (m : Int) = b[m] := by
  unfold rd_T32
  rw [List.getD_eq_getElem?_getD, Int.toNat_natCast, List.getElem?_eq_getElem h]; rfl
def Ev {α : Type} (g : Nat → Option α) (v : α) : Prop := ∃ k0, ∀ k, k0 ≤ k → g k = some v
theorem Ev.const {α : Type} (v : α) : Ev (fun _ => some v) v := ⟨0, fun _ _ => rfl⟩
theorem Ev.bind {α β : Type} {g : Nat → Option α} {F : Nat → α → Option β} {u : α} {v : β} (h : Ev g u) (h2 : Ev (fun k => F k u) v) : Ev (fun k => (g k).bind (F k)) v := by
  obtain ⟨a, ha⟩ := h
  obtain ⟨b, hb⟩ := h2
  exact ⟨a + b, fun k hk => by show (g k).bind (F k) = some v; rw [ha k (by omega), Option.bind_some]; exact hb k (by omega)⟩
theorem Ev.succ {α : Type} {g : Nat → Option α} {v : α} (h : Ev (fun k => g (k + 1)) v) : Ev g v := by
  obtain ⟨a, ha⟩ := h
  refine ⟨a + 1, fun k hk => ?_⟩
  obtain ⟨j, rfl⟩ : ∃ j, k = j + 1 := ⟨k - 1, by omega⟩
  exact ha j (by omega)
theorem Ev.uniq {α : Type} {g : Nat → Option α} {u v : α} (h : Ev g u) (h2 : Ev g v) : u = v := by
  obtain ⟨a, ha⟩ := h
  obtain ⟨b, hb⟩ := h2
  exact Option.some.inj ((ha (a + b) (by omega)).symm.trans (hb (a + b) (by omega)))
theorem Ev.get {α : Type} {g : Nat → Option α} {v : α} (h : Ev g v) : ∃ k, g k = some v := by
  obtain ⟨a, ha⟩ := h
  exact ⟨a, ha a (Nat.le_refl _)⟩
theorem ix {i n : Nat} (h : i < n) (hn : n ≤ 9223372036854775807) : wrap64 ((i : Int) + 1) = ((i + 1 : Nat) : Int) := by rw [w64 (by omega) (by omega)]; omega
theorem count1_some (a : Int) : ∃ t, shape_Count_1.f a = some t ∧ (t = false → 0 ≤ a ∧ a ≤ 1048576) := by
  unfold shape_Count_1.f
  by_cases h : a < 0
  · exact ⟨true, if_pos h, by simp⟩
  · refine ⟨decide (a > 1048576), if_neg h, fun e => ?_⟩
    have := of_decide_eq_false e
    omega
theorem index1_ev (l : List Int) (hl : l.length ≤ 9223372036854775807) : ∀ d i, i ≤ l.length → l.length - i = d → ∃ v, Ev (fun k => slices_IndexFunc_int_int.l0 k l (l.length : Int) (i : Int)) v := by
  intro d
  induction d with
  | zero =>
    intro i h1 h2
    refine ⟨-1, Ev.succ ?_⟩
    simp only [slices_IndexFunc_int_int.l0, if_neg (show ¬ ((i : Int) < (l.length : Int)) by omega)]
    exact Ev.const _
  | succ d ih =>
    intro i h1 h2
    have hi : i < l.length := by omega
    obtain ⟨t, ht, _⟩ := count1_some (rd l (i : Int))
    obtain ⟨v, hv⟩ := ih (i + 1) (by omega) (by omega)
    cases t with
    | true =>
      refine ⟨(i : Int), Ev.succ ?_⟩
      simp only [slices_IndexFunc_int_int.l0, if_pos (show ((i : Int) < (l.length : Int)) by omega), if_pos (show (0 : Int) ≤ (i : Int) by omega), ht]
      exact Ev.bind (Ev.const _) (Ev.const _)
    | false =>
      refine ⟨v, Ev.succ ?_⟩
      simp only [slices_IndexFunc_int_int.l0, if_pos (show ((i : Int) < (l.length : Int)) by omega), if_pos (show (0 : Int) ≤ (i : Int) by omega), ht, ix hi hl]
      exact Ev.bind (Ev.const _) hv
theorem index_ev (l : List Int) (a : Int) (hl : l.length ≤ 9223372036854775807) : ∀ d i, i ≤ l.length → l.length - i = d → ∃ v, Ev (fun k => slices_Index_int_int.l0 k l a (l.length : Int) (i : Int)) v := by
  intro d
  induction d with
  | zero =>
    intro i h1 h2
    refine ⟨-1, Ev.succ ?_⟩
    simp only [slices_Index_int_int.l0, if_neg (show ¬ ((i : Int) < (l.length : Int)) by omega)]
    exact Ev.const _
  | succ d ih =>
    intro i h1 h2
    have hi : i < l.length := by omega
    obtain ⟨v, hv⟩ := ih (i + 1) (by omega) (by omega)
    by_cases e : a = rd l (i : Int)
    · refine ⟨(i : Int), Ev.succ ?_⟩
      simp only [slices_Index_int_int.l0, if_pos (show ((i : Int) < (l.length : Int)) by omega), if_pos (show (0 : Int) ≤ (i : Int) by omega), if_pos e]
      exact Ev.const _
    · refine ⟨v, Ev.succ ?_⟩
      simp only [slices_Index_int_int.l0, if_pos (show ((i : Int) < (l.length : Int)) by omega), if_pos (show (0 : Int) ≤ (i : Int) by omega), if_neg e, ix hi hl]
      exact hv
theorem countl_ev (l : List Int) (hl : l.length ≤ 9223372036854775807) : ∀ d i x, i ≤ l.length → l.length - i = d → 0 ≤ x → x ≤ 1048576 → ∃ c b, Ev (fun k => shape_Count.l0 k x l (l.length : Int) (i : Int)) (c, b) ∧ 0 ≤ c ∧ c ≤ 1048576 := by
  intro d
  induction d with
  | zero =>
    intro i x h1 h2 hx0 hx1
    refine ⟨x, true, Ev.succ ?_, hx0, hx1⟩
    simp only [shape_Count.l0, if_neg (show ¬ ((i : Int) < (l.length : Int)) by omega)]
    exact Ev.const _
  | succ d ih =>
    intro i x h1 h2 hx0 hx1
    have hi : i < l.length := by omega
    obtain ⟨t, ht, hb⟩ := count1_some (wrap64 (x * rd l (i : Int)))
    cases t with
    | true =>
      refine ⟨0, false, Ev.succ ?_, by omega, by omega⟩
      simp only [shape_Count.l0, if_pos (show ((i : Int) < (l.length : Int)) by omega), if_pos (show (0 : Int) ≤ (i : Int) by omega), ht]
      exact Ev.bind (Ev.const _) (Ev.const _)
    | false =>
      obtain ⟨c, b, hv, h3⟩ := ih (i + 1) (wrap64 (x * rd l (i : Int))) (by omega) (by omega) (hb rfl).1 (hb rfl).2
      refine ⟨c, b, Ev.succ ?_, h3⟩
      simp only [shape_Count.l0, if_pos (show ((i : Int) < (l.length : Int)) by omega), if_pos (show (0 : Int) ≤ (i : Int) by omega), ht, ix hi hl]
      exact Ev.bind (Ev.const _) hv
theorem count_ev (l : List Int) : ∃ c b, Ev (fun k => shape_Count.f k l) (c, b) ∧ 0 ≤ c ∧ c ≤ 1048576 := by
  by_cases h : (l.length : Int) > 16
  · refine ⟨0, false, ?_, by omega, by omega⟩
    simp only [shape_Count.f, if_pos h]
    refine Ev.succ ?_
    simp only [shape_Count.j0]
    exact Ev.const _
  · have hl : l.length ≤ 9223372036854775807 := by omega
    obtain ⟨v1, e1⟩ := index1_ev l hl l.length 0 (by omega) (by omega)
    obtain ⟨v2, e2⟩ := index_ev l 0 hl l.length 0 (by omega) (by omega)
    obtain ⟨c, b, e3, hc⟩ := countl_ev l hl l.length 0 1 (by omega) (by omega) (by omega) (by omega)
    simp only [shape_Count.f, if_neg h, slices_ContainsFunc_int_int.f, slices_IndexFunc_int_int.f]
    have hf : ∀ t, ∃ c b, Ev (fun k => shape_Count.j0 k l t) (c, b) ∧ 0 ≤ c ∧ c ≤ 1048576 := by
      intro t
      cases t with
      | true =>
        refine ⟨0, false, Ev.succ ?_, by omega, by omega⟩
        simp only [shape_Count.j0]
        exact Ev.const _
      | false =>
        cases hd : decide (v2 ≥ 0) with
        | true =>
          refine ⟨0, true, Ev.succ ?_, by omega, by omega⟩
          simp only [shape_Count.j0, slices_Contains_int_int.f, slices_Index_int_int.f]
          refine Ev.bind (u := true) (Ev.bind e2 (by simp only [hd]; exact Ev.const _)) (Ev.const _)
        | false =>
          refine ⟨c, b, Ev.succ ?_, hc⟩
          simp only [shape_Count.j0, slices_Contains_int_int.f, slices_Index_int_int.f]
          exact Ev.bind (u := false) (Ev.bind e2 (by simp only [hd]; exact Ev.const _)) e3
    obtain ⟨c', b', e4, hc'⟩ := hf (decide (v1 ≥ 0))
    exact ⟨c', b', Ev.bind (Ev.bind e1 (Ev.const _)) e4, hc'⟩
theorem valid_ev (a : Int) : ∃ v, Ev (fun k => utf8_ValidRune.f k a) v := by
  have hj : ∀ t, ∃ v, Ev (fun k => utf8_ValidRune.j0 k a t) v := by
    intro t
    cases t with
    | true => exact ⟨true, Ev.succ (by simp only [utf8_ValidRune.j0]; exact Ev.const _)⟩
    | false =>
      by_cases h1 : 57343 < a
      · by_cases h2 : a ≤ 1114111
        · exact ⟨true, Ev.succ (by simp only [utf8_ValidRune.j0, if_pos h1, if_pos h2]; exact Ev.const _)⟩
        · exact ⟨false, Ev.succ (by simp only [utf8_ValidRune.j0, if_pos h1, if_neg h2]; exact Ev.const _)⟩
      · exact ⟨false, Ev.succ (by simp only [utf8_ValidRune.j0, if_neg h1]; exact Ev.const _)⟩
  by_cases h : 0 ≤ a
  · simp only [utf8_ValidRune.f, if_pos h]; exact hj _
  · simp only [utf8_ValidRune.f, if_neg h]; exact hj _
theorem fits_ev (a b : Int) : ∃ v, Ev (fun k => array_fits.f k a b) v := by
  by_cases h1 : a = 1
  · simp only [array_fits.f, if_pos h1]; exact ⟨_, Ev.const _⟩
  · by_cases h2 : a = 2
    · simp only [array_fits.f, if_neg h1, if_pos h2]; exact ⟨_, Ev.const _⟩
    · by_cases h3 : a = 3
      · by_cases h4 : b = wrap64 (wrap32 b)
        · obtain ⟨v, hv⟩ := valid_ev (wrap32 b)
          refine ⟨v, ?_⟩
          simp only [array_fits.f, if_neg h1, if_neg h2, if_pos h3, if_pos h4]
          exact Ev.bind hv (Ev.const _)
        · simp only [array_fits.f, if_neg h1, if_neg h2, if_pos h3, if_neg h4]; exact ⟨_, Ev.const _⟩
      · simp only [array_fits.f, if_neg h1, if_neg h2, if_neg h3]; exact ⟨_, Ev.const _⟩
theorem wrongs_ev (l : List Int) (a : Int) (hl : l.length ≤ 9223372036854775807) : ∀ d i, i ≤ l.length → l.length - i = d → ∃ v, Ev (fun k => array_wrongs_int.l0 k a l (l.length : Int) (i : Int)) v := by
  intro d
  induction d with
  | zero =>
    intro i h1 h2
    refine ⟨false, Ev.succ ?_⟩
    simp only [array_wrongs_int.l0, if_neg (show ¬ ((i : Int) < (l.length : Int)) by omega)]
    exact Ev.const _
  | succ d ih =>
    intro i h1 h2
    have hi : i < l.length := by omega
    obtain ⟨t, ht⟩ := fits_ev a (rd l (i : Int))
    obtain ⟨v, hv⟩ := ih (i + 1) (by omega) (by omega)
    cases t with
    | true =>
      refine ⟨v, Ev.succ ?_⟩
      simp only [array_wrongs_int.l0, if_pos (show ((i : Int) < (l.length : Int)) by omega), if_pos (show (0 : Int) ≤ (i : Int) by omega), array_items_1.f, ix hi hl]
      exact Ev.bind (u := true) (Ev.bind ht (Ev.const _)) hv
    | false =>
      refine ⟨true, Ev.succ ?_⟩
      simp only [array_wrongs_int.l0, if_pos (show ((i : Int) < (l.length : Int)) by omega), if_pos (show (0 : Int) ≤ (i : Int) by omega), array_items_1.f]
      exact Ev.bind (u := false) (Ev.bind ht (Ev.const _)) (Ev.const _)
theorem norm_ev : ∀ (d : Nat) (x e : Int), -9223372036854775808 ≤ e → e ≤ 9223372036854775807 → (32768 - e).toNat ≤ d → ∃ v, Ev (fun k => decimal_Norm.l0 k x e) v := by
  intro d
  induction d with
  | zero =>
    intro x e h1 h2 h3
    have h4 : ¬ e ≤ 32767 := by omega
    have h5 : ¬ e < -32768 := by omega
    have h6 : e > 32767 := by omega
    refine ⟨(0, 0, false), Ev.succ ?_⟩
    by_cases h : Int.tmod x 10 = 0
    · simp only [decimal_Norm.l0, if_pos h, if_neg h4, if_neg h5, if_pos h6]; exact Ev.const _
    · simp only [decimal_Norm.l0, if_neg h, if_neg h5, if_pos h6]; exact Ev.const _
  | succ d ih =>
    intro x e h1 h2 h3
    have hl : ∃ v : Int × Int × Bool, (if e < -32768 then some (0, 0, false) else if e > 32767 then some (0, 0, false) else some (x, e, true)) = some v := by
      split
      · exact ⟨_, rfl⟩
      · split <;> exact ⟨_, rfl⟩
    obtain ⟨v, hv⟩ := hl
    by_cases h : Int.tmod x 10 = 0
    · by_cases h4 : e ≤ 32767
      · have hw : wrap64 (e + 1) = e + 1 := w64 (by omega) (by omega)
        obtain ⟨v', hv'⟩ := ih (wrap64 (Int.tdiv x 10)) (wrap64 (e + 1)) (by omega) (by omega) (by omega)
        refine ⟨v', Ev.succ ?_⟩
        simp only [decimal_Norm.l0, if_pos h, if_pos h4]; exact hv'
      · refine ⟨v, Ev.succ ?_⟩
        simp only [decimal_Norm.l0, if_pos h, if_neg h4, hv]; exact Ev.const _
    · refine ⟨v, Ev.succ ?_⟩
      simp only [decimal_Norm.l0, if_neg h, hv]; exact Ev.const _
def OkD (y : S40) : Prop := -9223372036854775808 ≤ y.f1 ∧ y.f1 ≤ 9223372036854775807
def Ok (n : S32) : Prop := ∀ y ∈ n.f3, OkD y
theorem decright_ev (y : S40) (h : OkD y) : ∃ v, Ev (fun k => decimal_Right.f k y.f0 y.f1) v := by
  have hn : ∃ v, Ev (fun k => decimal_Norm.f k y.f0 y.f1) v := by
    by_cases h0 : y.f0 = 0
    · simp only [decimal_Norm.f, if_pos h0]; exact ⟨_, Ev.const _⟩
    · simp only [decimal_Norm.f, if_neg h0]; exact norm_ev _ y.f0 y.f1 h.1 h.2 (Nat.le_refl _)
  obtain ⟨⟨a, b, c⟩, hv⟩ := hn
  cases c with
  | true => exact ⟨_, Ev.bind hv (Ev.const _)⟩
  | false => exact ⟨_, Ev.bind hv (Ev.const _)⟩
theorem decs_ev (l : List S40) (ok : ∀ y ∈ l, OkD y) (hl : l.length ≤ 9223372036854775807) : ∀ d i, i ≤ l.length → l.length - i = d → ∃ v, Ev (fun k => api_Dec_91.l0 k l (l.length : Int) (i : Int)) v := by
  intro d
  induction d with
  | zero =>
    intro i h1 h2
    refine ⟨false, Ev.succ ?_⟩
    simp only [api_Dec_91.l0, if_neg (show ¬ ((i : Int) < (l.length : Int)) by omega)]
    exact Ev.const _
  | succ d ih =>
    intro i h1 h2
    have hi : i < l.length := by omega
    have hr : rd_T40 l (i : Int) = l[i] := by
      unfold rd_T40
      rw [List.getD_eq_getElem?_getD, Int.toNat_natCast, List.getElem?_eq_getElem hi]; rfl
    obtain ⟨t, ht⟩ := decright_ev (rd_T40 l (i : Int)) (by rw [hr]; exact ok _ (List.getElem_mem _))
    obtain ⟨v, hv⟩ := ih (i + 1) (by omega) (by omega)
    cases t with
    | true =>
      refine ⟨v, Ev.succ ?_⟩
      simp only [api_Dec_91.l0, if_pos (show ((i : Int) < (l.length : Int)) by omega), if_pos (show (0 : Int) ≤ (i : Int) by omega), ix hi hl]
      exact Ev.bind ht hv
    | false =>
      refine ⟨true, Ev.succ ?_⟩
      simp only [api_Dec_91.l0, if_pos (show ((i : Int) < (l.length : Int)) by omega), if_pos (show (0 : Int) ≤ (i : Int) by omega)]
      exact Ev.bind ht (Ev.const _)
theorem items1_ev (x3 x5 x6 a a' : Int) (b c : List Int) (e : List S40) (ok : ∀ y ∈ e, OkD y) (h0 : 0 ≤ x3) (h1 : x3 ≤ 1048576) (h5 : x5 ≤ 1048576) (h6 : x6 ≤ 1048576) :
    ∃ v, Ev (fun k => array_items.j1 k x3 x5 x6 a a' b c e) v ∧ (v = -1 ∨ (v = x3 ∧ (c.length : Int) = x5 ∧ (e.length : Int) = x6)) := by
  by_cases g1 : (c.length : Int) = x5
  · by_cases g2 : (e.length : Int) = x6
    · obtain ⟨t, ht⟩ := wrongs_ev c a (by omega) c.length 0 (by omega) (by omega)
      obtain ⟨s, hs⟩ := decs_ev e ok (by omega) e.length 0 (by omega) (by omega)
      cases t with
      | true =>
        refine ⟨-1, Ev.succ ?_, .inl rfl⟩
        simp only [array_items.j1, if_pos g1, if_pos g2, array_wrongs_int.f]
        exact Ev.bind ht (Ev.const _)
      | false =>
        cases s with
        | true =>
          refine ⟨-1, Ev.succ ?_, .inl rfl⟩
          simp only [array_items.j1, if_pos g1, if_pos g2, array_wrongs_int.f, api_Dec_91.f]
          exact Ev.bind ht (Ev.bind hs (Ev.const _))
        | false =>
          refine ⟨x3, Ev.succ ?_, .inr ⟨rfl, g1, g2⟩⟩
          simp only [array_items.j1, if_pos g1, if_pos g2, array_wrongs_int.f, api_Dec_91.f]
          exact Ev.bind ht (Ev.bind hs (Ev.const _))
    · refine ⟨-1, Ev.succ ?_, .inl rfl⟩
      simp only [array_items.j1, if_pos g1, if_neg g2]; exact Ev.const _
  · refine ⟨-1, Ev.succ ?_, .inl rfl⟩
    simp only [array_items.j1, if_neg g1]; exact Ev.const _
theorem items0_ev (x3 a a' : Int) (t : Bool) (b c : List Int) (e : List S40) (ok : ∀ y ∈ e, OkD y) (h0 : 0 ≤ x3) (h1 : x3 ≤ 1048576) :
    ∃ v, Ev (fun k => array_items.j0 k x3 0 0 a t a' b c e) v ∧ (v = -1 ∨ (v = x3 ∧ (a = 5 → t = false → c = [] ∧ e = []) ∧ (a ≠ 5 → v ≤ (c.length : Int) ∨ v ≤ (e.length : Int)))) := by
  cases t with
  | true =>
    obtain ⟨v, hv, hb⟩ := items1_ev x3 x3 0 a a' b c e ok h0 h1 h1 (by omega)
    exact ⟨v, Ev.succ (by simp only [array_items.j0]; exact hv), hb.imp id fun h => ⟨h.1, fun _ h' => by simp at h', fun _ => .inl (by omega)⟩⟩
  | false =>
    by_cases g1 : a = 4
    · obtain ⟨v, hv, hb⟩ := items1_ev x3 0 x3 a a' b c e ok h0 h1 (by omega) h1
      exact ⟨v, Ev.succ (by simp only [array_items.j0, if_pos g1]; exact hv), hb.imp id fun h => ⟨h.1, fun h' _ => by omega, fun _ => .inr (by omega)⟩⟩
    · by_cases g2 : a = 5
      · obtain ⟨v, hv, hb⟩ := items1_ev x3 0 0 a a' b c e ok h0 h1 (by omega) (by omega)
        exact ⟨v, Ev.succ (by simp only [array_items.j0, if_neg g1, if_pos g2]; exact hv), hb.imp id fun h => ⟨h.1, fun _ _ => ⟨List.eq_nil_of_length_eq_zero (by omega), List.eq_nil_of_length_eq_zero (by omega)⟩, fun h' => absurd g2 h'⟩⟩
      · exact ⟨-1, Ev.succ (by simp only [array_items.j0, if_neg g1, if_neg g2]; exact Ev.const _), .inl rfl⟩
def Spec (n : S32) (v : Int) : Prop := Ev (fun k => shape_Count.f k n.f1) (v, true) ∧ 0 ≤ v ∧ v ≤ 1048576 ∧ (n.f0 = 5 → n.f2 = [] ∧ n.f3 = []) ∧ (n.f0 ≠ 5 → v ≤ (n.f2.length : Int) ∨ v ≤ (n.f3.length : Int))
theorem items_ev (n : S32) (ok : Ok n) : ∃ v, Ev (fun k => array_items.f k n.f0 n.f1 n.f2 n.f3) v ∧ (v = -1 ∨ Spec n v) := by
  obtain ⟨c, b, hc, h0, h1⟩ := count_ev n.f1
  cases b with
  | true =>
    have hr : ∃ v, Ev (fun k => (if n.f0 = 1 then (array_items.j0 k c 0 0 n.f0 (n.f0 == 1) n.f0 n.f1 n.f2 n.f3) else (if n.f0 = 2 then (array_items.j0 k c 0 0 n.f0 (n.f0 == 2) n.f0 n.f1 n.f2 n.f3) else (array_items.j0 k c 0 0 n.f0 (n.f0 == 3) n.f0 n.f1 n.f2 n.f3)))) v ∧ (v = -1 ∨ (v = c ∧ (n.f0 = 5 → n.f2 = [] ∧ n.f3 = []) ∧ (n.f0 ≠ 5 → v ≤ (n.f2.length : Int) ∨ v ≤ (n.f3.length : Int)))) := by
      by_cases g1 : n.f0 = 1
      · simp only [if_pos g1]
        obtain ⟨v, hv, hb⟩ := items0_ev c n.f0 n.f0 (n.f0 == 1) n.f1 n.f2 n.f3 ok h0 h1
        exact ⟨v, hv, hb.imp id fun h => ⟨h.1, fun h' => by omega, h.2.2⟩⟩
      · by_cases g2 : n.f0 = 2
        · simp only [if_neg g1, if_pos g2]
          obtain ⟨v, hv, hb⟩ := items0_ev c n.f0 n.f0 (n.f0 == 2) n.f1 n.f2 n.f3 ok h0 h1
          exact ⟨v, hv, hb.imp id fun h => ⟨h.1, fun h' => by omega, h.2.2⟩⟩
        · simp only [if_neg g1, if_neg g2]
          obtain ⟨v, hv, hb⟩ := items0_ev c n.f0 n.f0 (n.f0 == 3) n.f1 n.f2 n.f3 ok h0 h1
          exact ⟨v, hv, hb.imp id fun h => ⟨h.1, fun h' => h.2.1 h' (beq_eq_false_iff_ne.mpr (by omega)), h.2.2⟩⟩
    obtain ⟨v, hv, hb⟩ := hr
    refine ⟨v, ?_, hb.imp id fun h => ?_⟩
    · simp only [array_items.f]
      exact Ev.bind hc hv
    · refine ⟨by rw [h.1]; exact hc, by rw [h.1]; exact h0, by rw [h.1]; exact h1, h.2⟩
  | false =>
    refine ⟨-1, ?_, .inl rfl⟩
    simp only [array_items.f]
    exact Ev.bind hc (Ev.const _)
noncomputable def itm (n : S32) : Int := open Classical in if h : ∃ v, Ev (fun k => array_items.f k n.f0 n.f1 n.f2 n.f3) v ∧ (v = -1 ∨ Spec n v) then h.choose else -1
theorem itm_said (n : S32) (ok : Ok n) : Ev (fun k => array_items.f k n.f0 n.f1 n.f2 n.f3) (itm n) ∧ (itm n = -1 ∨ Spec n (itm n)) := by
  obtain ⟨v, hv, hb⟩ := items_ev n ok
  have h : ∃ v, Ev (fun k => array_items.f k n.f0 n.f1 n.f2 n.f3) v ∧ (v = -1 ∨ Spec n v) := ⟨v, hv, hb⟩
  have e : itm n = v := by
    unfold itm
    rw [dif_pos h]
    exact Ev.uniq h.choose_spec.1 hv
  rw [e]
  exact ⟨hv, hb⟩
theorem itm_ev (n : S32) (ok : Ok n) : Ev (fun k => array_items.f k n.f0 n.f1 n.f2 n.f3) (itm n) ∧ -1 ≤ itm n ∧ itm n ≤ 1048576 := by
  obtain ⟨h, hb⟩ := itm_said n ok
  refine ⟨h, ?_⟩
  rcases hb with e | e
  · omega
  · have := e.2.1
    have := e.2.2.1
    omega
def dec1 (v : Int) : Int := wrap64 (v - 1)
def decT : List Int → List Int
  | [] => []
  | x :: s => dec1 x :: s
theorem decT_length (s : List Int) : (decT s).length = s.length := by cases s <;> rfl
def clrN : Nat → List Int → List Int
  | 0, s => s
  | _ + 1, [] => []
  | n + 1, x :: s => if x = 0 then clrN n (decT s) else x :: s
def clr (s : List Int) : List Int := clrN s.length s
theorem clr_cons (x : Int) (s : List Int) : clr (x :: s) = if x = 0 then clr (decT s) else x :: s := by
  unfold clr
  rw [decT_length]; rfl
theorem clr_length : ∀ (n : Nat) (s : List Int), s.length ≤ n → (clr s).length ≤ s.length := by
  intro n
  induction n with
  | zero =>
    intro s hs
    obtain rfl := List.eq_nil_of_length_eq_zero (Nat.le_zero.1 hs)
    exact Nat.le_refl _
  | succ n ih =>
    intro s hs
    cases s with
    | nil => exact Nat.le_refl _
    | cons x s =>
      rw [clr_cons]
      split
      · have := ih (decT s) (by rw [decT_length]; simp only [List.length_cons] at hs; omega)
        rw [decT_length] at this
        simp only [List.length_cons]; omega
      · exact Nat.le_refl _
noncomputable def push (st : List Int) (n : S32) : List Int := if n.f0 = 5 then itm n :: st else decT st
theorem push_length (st : List Int) (n : S32) : (push st n).length ≤ st.length + 1 := by
  unfold push
  split
  · exact Nat.le_refl _
  · rw [decT_length]; omega
open Classical in
noncomputable def walkS : Int → Int → List Int → Int → List S32 → Int × Int × Int
  | _, _, _, _, [] => (0, 0, 0)
  | all, deep, st, i, n :: r =>
    if itm n < 0 ∨ wrap64 (all + itm n) > 1048576 ∨ 16 ≤ st.length then (0, 0, 0)
    else if clr (push st n) = [] then (i + 1, wrap64 (all + itm n), mx deep (wrap64 ((st.length : Int) + 1)))
    else walkS (wrap64 (all + itm n)) (mx deep (wrap64 ((st.length : Int) + 1))) (clr (push st n)) (i + 1) r
theorem last_ix {n : Nat} (h : 0 < n) (hn : n ≤ 9223372036854775807) : wrap64 ((n : Int) - 1) = ((n - 1 : Nat) : Int) := by rw [w64 (by omega) (by omega)]; omega
theorem rev_last (x : Int) (s : List Int) : rd (x :: s).reverse ((s.length : Nat) : Int) = x := by
  rw [rd_at _ _ (by simp)]
  simp
theorem rev_set (x v : Int) (s : List Int) : (x :: s).reverse.set s.length v = (v :: s).reverse := by
  simp only [List.reverse_cons]
  rw [List.set_append_right _ _ (by simp)]
  simp
theorem rev_take (x : Int) (s : List Int) : (x :: s).reverse.take s.length = s.reverse := by
  rw [List.reverse_cons]
  rw [List.take_append_of_le_length (by simp)]
  exact List.take_of_length_le (by simp)
theorem pop_ev (all deep i6 : Int) (x9 : List S32) (x10 x11 : Int) (v : Int × Int × Int) : ∀ (n : Nat) (st : List Int), st.length ≤ n → st.length ≤ 100 →
    Ev (fun k => array_walk.j4 k all deep (clr st).reverse i6 x9 x10 x11 false) v → Ev (fun k => array_walk.l1 k all deep st.reverse i6 x9 x10 x11) v := by
  intro n
  induction n with
  | zero =>
    intro st hs hc h
    obtain rfl := List.eq_nil_of_length_eq_zero (Nat.le_zero.1 hs)
    refine Ev.succ ?_
    simp only [array_walk.l1, List.reverse_nil, List.length_nil, if_neg (show ¬ (((0 : Nat) : Int) > 0) by decide)]
    exact h
  | succ n ih =>
    intro st hs hc h
    cases st with
    | nil =>
      refine Ev.succ ?_
      simp only [array_walk.l1, List.reverse_nil, List.length_nil, if_neg (show ¬ (((0 : Nat) : Int) > 0) by decide)]
      exact h
    | cons x s =>
      simp only [List.length_cons] at hs hc
      have hL : (x :: s).reverse.length = s.length + 1 := by simp
      have hw : wrap64 (((s.length + 1 : Nat) : Int) - 1) = ((s.length : Nat) : Int) := last_ix (by omega) (by omega)
      refine Ev.succ ?_
      simp only [array_walk.l1, hL, hw, if_pos (show (((s.length + 1 : Nat) : Int) > 0) by omega), if_pos (show (0 : Int) ≤ ((s.length : Nat) : Int) by omega), if_pos (show ((s.length : Nat) : Int) < ((s.length + 1 : Nat) : Int) by omega), rev_last]
      rw [clr_cons] at h
      by_cases e : x = 0
      · rw [if_pos e] at h
        subst e
        refine Ev.succ ?_
        simp only [array_walk.j4, hL, hw, BEq.rfl, if_true, if_pos (show (0 : Int) ≤ ((s.length : Nat) : Int) by omega), if_pos (show ((s.length : Nat) : Int) ≤ ((s.length + 1 : Nat) : Int) by omega), Int.toNat_natCast, rev_take, Option.bind_some, List.length_reverse]
        cases s with
        | nil =>
          simp only [List.length_nil, if_neg (show ¬ (((0 : Nat) : Int) > 0) by decide)]
          exact ih [] (by simp) (by simp) h
        | cons y s =>
          have hw2 : wrap64 (((s.length + 1 : Nat) : Int) - 1) = ((s.length : Nat) : Int) := last_ix (by omega) (by simp only [List.length_cons] at hc; omega)
          simp only [List.length_cons, hw2, if_pos (show (((s.length + 1 : Nat) : Int) > 0) by omega), if_pos (show (0 : Int) ≤ ((s.length : Nat) : Int) by omega), if_pos (show ((s.length : Nat) : Int) < ((s.length + 1 : Nat) : Int) by omega), rev_last, Int.toNat_natCast, rev_set]
          exact ih (dec1 y :: s) (by simp only [List.length_cons] at hs ⊢; omega) (by simp only [List.length_cons] at hc ⊢; omega) h
      · rw [if_neg e] at h
        rw [show (x == 0) = false from beq_eq_false_iff_ne.mpr e]
        exact h
theorem walk_ev (l : List S32) (ok : ∀ n ∈ l, Ok n) (hl : l.length ≤ 9223372036854775807) : ∀ d i, i ≤ l.length → l.length - i = d → ∀ (all deep : Int) (st : List Int), st.length ≤ 17 →
    Ev (fun k => array_walk.l0 k all deep st.reverse l (l.length : Int) (i : Int)) (walkS all deep st (i : Int) (l.drop i)) := by
  intro d
  induction d with
  | zero =>
    intro i h1 h2 all deep st hs
    have hd : l.drop i = [] := List.drop_eq_nil_of_le (by omega)
    rw [hd]
    refine Ev.succ ?_
    simp only [array_walk.l0, if_neg (show ¬ ((i : Int) < (l.length : Int)) by omega)]
    exact Ev.const _
  | succ d ih =>
    intro i h1 h2 all deep st hs
    have hi : i < l.length := by omega
    have hd : l.drop i = l[i] :: l.drop (i + 1) := (List.drop_eq_getElem_cons hi)
    rw [hd]
    generalize hn : l[i] = n
    have okn : Ok n := by rw [← hn]; exact ok _ (List.getElem_mem _)
    obtain ⟨hit, hb0, hb1⟩ := itm_ev n okn
    have hrd : rd_T32 l (i : Int) = n := by rw [rdT_at l i hi, hn]
    have hfail : ∀ (a b : Int), Ev (fun k => array_walk.j1 k (wrap64 (all + itm n)) deep st.reverse (i : Int) (itm n) l (l.length : Int) (i : Int) true n.f0 n.f1 n.f2 n.f3) (0, 0, 0) := fun _ _ => Ev.succ (by simp only [array_walk.j1]; exact Ev.const _)
    have hgo : st.length < 16 → Ev (fun k => array_walk.j2 k (wrap64 (all + itm n)) (mx deep (wrap64 ((st.length : Int) + 1))) (push st n).reverse (i : Int) l (l.length : Int) (i : Int))
        (if clr (push st n) = [] then ((i : Int) + 1, wrap64 (all + itm n), mx deep (wrap64 ((st.length : Int) + 1))) else walkS (wrap64 (all + itm n)) (mx deep (wrap64 ((st.length : Int) + 1))) (clr (push st n)) ((i : Int) + 1) (l.drop (i + 1))) := by
      intro hst
      refine Ev.succ ?_
      simp only [array_walk.j2]
      have hp := push_length st n
      refine pop_ev _ _ _ _ _ _ _ (push st n).length (push st n) (Nat.le_refl _) (by omega) ?_
      refine Ev.succ ?_
      simp only [array_walk.j4, Bool.false_eq_true, if_false, List.length_reverse]
      have hcl := clr_length (push st n).length (push st n) (Nat.le_refl _)
      by_cases e : clr (push st n) = []
      · simp only [e, List.length_nil, if_pos (show (((0 : Nat) : Int)) = 0 by rfl), if_true]
        rw [show wrap64 ((i : Int) + 1) = (i : Int) + 1 by rw [ix hi hl]; omega]
        exact Ev.const _
      · have hz : ¬ (((clr (push st n)).length : Int) = 0) := fun h0 => e (List.eq_nil_of_length_eq_zero (by omega))
        simp only [if_neg e, if_neg hz, ix hi hl]
        have hi1 : ((i : Int) + 1) = ((i + 1 : Nat) : Int) := by omega
        rw [hi1]
        exact ih (i + 1) (by omega) (by omega) _ _ _ (by omega)
    refine Ev.succ ?_
    simp only [array_walk.l0, if_pos (show ((i : Int) < (l.length : Int)) by omega), if_pos (show (0 : Int) ≤ (i : Int) by omega), hrd]
    refine Ev.bind hit ?_
    by_cases g1 : itm n < 0
    · simp only [walkS, if_pos g1, if_pos (show itm n < 0 ∨ wrap64 (all + itm n) > 1048576 ∨ 16 ≤ st.length from .inl g1)]
      exact hfail 0 0
    · by_cases g2 : wrap64 (all + itm n) > 1048576
      · simp only [walkS, if_neg g1, if_pos g2, if_pos (show itm n < 0 ∨ wrap64 (all + itm n) > 1048576 ∨ 16 ≤ st.length from .inr (.inl g2))]
        exact hfail 0 0
      · simp only [if_neg g1, if_neg g2, List.length_reverse]
        by_cases g3 : 16 ≤ st.length
        · simp only [walkS, if_pos (show itm n < 0 ∨ wrap64 (all + itm n) > 1048576 ∨ 16 ≤ st.length from .inr (.inr g3)), decide_eq_true (show ((st.length : Int) ≥ 16) by omega)]
          exact hfail 0 0
        · simp only [walkS, if_neg (show ¬ (itm n < 0 ∨ wrap64 (all + itm n) > 1048576 ∨ 16 ≤ st.length) from fun h => h.elim g1 fun h => h.elim g2 g3), decide_eq_false (show ¬ ((st.length : Int) ≥ 16) by omega)]
          refine Ev.succ ?_
          simp only [array_walk.j1, Bool.false_eq_true, if_false, List.length_reverse]
          replace hgo := hgo (by omega)
          unfold push at hgo
          by_cases g5 : n.f0 = 5
          · simp only [if_pos g5] at hgo
            simp only [if_pos g5, if_pos (show st.length < 17592186044416 by omega)]
            unfold push
            simp only [if_pos g5]
            rw [List.reverse_cons] at hgo
            exact hgo
          · simp only [if_neg g5] at hgo ⊢
            unfold push
            simp only [if_neg g5]
            cases st with
            | nil => exact hgo
            | cons x s =>
              have hw : wrap64 (((s.length + 1 : Nat) : Int) - 1) = ((s.length : Nat) : Int) := last_ix (by omega) (by simp only [List.length_cons] at hs; omega)
              simp only [List.length_cons, hw, if_pos (show (((s.length + 1 : Nat) : Int) > 0) by omega), if_pos (show (0 : Int) ≤ ((s.length : Nat) : Int) by omega), if_pos (show ((s.length : Nat) : Int) < ((s.length + 1 : Nat) : Int) by omega), rev_last, Int.toNat_natCast, rev_set]
              simp only [List.length_cons] at hgo
              exact hgo
noncomputable def tk (l : List S32) : Int := (walkS 0 0 [] 0 l).1
theorem walkf_ev (l : List S32) (ok : ∀ n ∈ l, Ok n) (hl : l.length ≤ 9223372036854775807) : Ev (fun k => array_walk.f k l) (walkS 0 0 [] 0 l) := by
  have := walk_ev l ok hl l.length 0 (by omega) (by omega) 0 0 [] (by simp)
  simp only [array_walk.f]
  exact this
theorem take_ev (l : List S32) (ok : ∀ n ∈ l, Ok n) (hl : l.length ≤ 9223372036854775807) : Ev (fun k => array_Take.f k l) (tk l) := by
  simp only [array_Take.f]
  exact Ev.bind (walkf_ev l ok hl) (Ev.const _)
noncomputable def rt (l : List S32) : Bool := if (l.length : Int) > 0 then (tk l == (l.length : Int)) else false
theorem right_ev (l : List S32) (ok : ∀ n ∈ l, Ok n) (hl : l.length ≤ 9223372036854775807) : Ev (fun k => array_Right.f k l) (rt l) := by
  unfold rt
  by_cases h : (l.length : Int) > 0
  · simp only [array_Right.f, if_pos h]
    exact Ev.bind (take_ev l ok hl) (Ev.const _)
  · simp only [array_Right.f, if_neg h]
    exact Ev.const _
def Fits (n : S32) : Prop := n.f1.length ≤ 30 ∧ n.f2.length ≤ 300 ∧ n.f3.length ≤ 300
def Fit2 (n : S32) : Prop := n.f1.length ≤ 1100000 ∧ n.f2.length ≤ 1100000 ∧ n.f3.length ≤ 1100000
theorem rdD_at (b : List S40) (m : Nat) (h : m < b.length) : rd_T40 b (m : Int) = b[m] := by
  unfold rd_T40
  rw [List.getD_eq_getElem?_getD, Int.toNat_natCast, List.getElem?_eq_getElem h]; rfl
noncomputable def q {α : Type} (a b : α) : Bool := @decide (a = b) (Classical.propDecidable _)
theorem q_t {α : Type} {a b : α} (h : a = b) : q a b = true := by unfold q; exact @decide_eq_true _ (Classical.propDecidable _) h
theorem q_f {α : Type} {a b : α} (h : a ≠ b) : q a b = false := by unfold q; exact @decide_eq_false _ (Classical.propDecidable _) h
theorem q_nil {α : Type} {a b : List α} {i : Nat} (h : a.length ≤ i) (h2 : b.length ≤ i) : q (a.drop i) (b.drop i) = true := q_t (by rw [List.drop_eq_nil_of_le h, List.drop_eq_nil_of_le h2])
theorem q_eq {α : Type} {a b : List α} {i : Nat} (ha : i < a.length) (hb : i < b.length) (h : a[i] = b[i]) : q (a.drop i) (b.drop i) = q (a.drop (i + 1)) (b.drop (i + 1)) := by
  by_cases g : a.drop (i + 1) = b.drop (i + 1)
  · rw [q_t g, q_t (by rw [List.drop_eq_getElem_cons ha, List.drop_eq_getElem_cons hb, h, g])]
  · rw [q_f g, q_f (fun e => g (by rw [List.drop_eq_getElem_cons ha, List.drop_eq_getElem_cons hb] at e; injection e))]
theorem q_ne {α : Type} {a b : List α} {i : Nat} (ha : i < a.length) (hb : i < b.length) (h : a[i] ≠ b[i]) : q (a.drop i) (b.drop i) = false :=
  q_f (fun e => h (by rw [List.drop_eq_getElem_cons ha, List.drop_eq_getElem_cons hb] at e; injection e))
theorem eqi_loop (a b : List Int) (he : a.length = b.length) (hl : a.length ≤ 9223372036854775807) : ∀ d i, i ≤ a.length → a.length - i = d → Ev (fun k => slices_Equal_int_int.l0 k a b (a.length : Int) (i : Int)) (q (a.drop i) (b.drop i)) := by
  intro d
  induction d with
  | zero =>
    intro i h1 h2
    rw [q_nil (by omega) (by omega)]
    refine Ev.succ ?_
    simp only [slices_Equal_int_int.l0, if_neg (show ¬ ((i : Int) < (a.length : Int)) by omega)]
    exact Ev.const _
  | succ d ih =>
    intro i h1 h2
    have hi : i < a.length := by omega
    have hb : i < b.length := by omega
    have hv := ih (i + 1) (by omega) (by omega)
    refine Ev.succ ?_
    simp only [slices_Equal_int_int.l0, if_pos (show ((i : Int) < (a.length : Int)) by omega), if_pos (show ((i : Int) < (b.length : Int)) by omega), if_pos (show (0 : Int) ≤ (i : Int) by omega), ix hi hl, rd_at a i hi, rd_at b i hb]
    by_cases g : a[i] = b[i]
    · rw [q_eq hi hb g]; simp only [if_pos g]; exact hv
    · rw [q_ne hi hb g]; simp only [if_neg g]; exact Ev.const _
theorem eqi_ev (a b : List Int) (hl : a.length ≤ 9223372036854775807) : Ev (fun k => slices_Equal_int_int.f k a b) (q a b) := by
  by_cases h : (a.length : Int) = (b.length : Int)
  · simp only [slices_Equal_int_int.f, if_pos h]
    have := eqi_loop a b (by omega) hl a.length 0 (by omega) (by omega)
    simp only [List.drop_zero] at this
    exact this
  · simp only [slices_Equal_int_int.f, if_neg h]
    rw [q_f (fun e => h (by rw [e]))]
    exact Ev.const _
theorem dec_ne (x y : S40) : (!(x.f0 == y.f0) || !(x.f1 == y.f1)) = !(q x y) := by
  by_cases h : x = y
  · rw [q_t h, h]; simp
  · rw [q_f h]
    obtain ⟨a, b⟩ := x
    obtain ⟨c, d⟩ := y
    by_cases e : a = c
    · by_cases f : b = d
      · exact absurd (by rw [e, f]) h
      · simp only [beq_eq_false_iff_ne.mpr f, Bool.not_false, Bool.or_true]
    · simp only [beq_eq_false_iff_ne.mpr e, Bool.not_false, Bool.true_or]
theorem eqd_loop (a b : List S40) (he : a.length = b.length) (hl : a.length ≤ 9223372036854775807) : ∀ d i, i ≤ a.length → a.length - i = d → Ev (fun k => api_Dec_37.l0 k a b (a.length : Int) (i : Int)) (q (a.drop i) (b.drop i)) := by
  intro d
  induction d with
  | zero =>
    intro i h1 h2
    rw [q_nil (by omega) (by omega)]
    refine Ev.succ ?_
    simp only [api_Dec_37.l0, if_neg (show ¬ ((i : Int) < (a.length : Int)) by omega)]
    exact Ev.const _
  | succ d ih =>
    intro i h1 h2
    have hi : i < a.length := by omega
    have hb : i < b.length := by omega
    have hv := ih (i + 1) (by omega) (by omega)
    refine Ev.succ ?_
    simp only [api_Dec_37.l0, if_pos (show ((i : Int) < (a.length : Int)) by omega), if_pos (show ((i : Int) < (b.length : Int)) by omega), if_pos (show (0 : Int) ≤ (i : Int) by omega), ix hi hl, rdD_at a i hi, rdD_at b i hb, dec_ne]
    by_cases g : a[i] = b[i]
    · rw [q_eq hi hb g]; simp only [q_t g, Bool.not_true, Bool.false_eq_true, if_false]; exact hv
    · rw [q_ne hi hb g]; simp only [q_f g, Bool.not_false, if_true]; exact Ev.const _
theorem eqd_ev (a b : List S40) (hl : a.length ≤ 9223372036854775807) : Ev (fun k => api_Dec_37.f k a b) (q a b) := by
  by_cases h : (a.length : Int) = (b.length : Int)
  · simp only [api_Dec_37.f, if_pos h]
    have := eqd_loop a b (by omega) hl a.length 0 (by omega) (by omega)
    simp only [List.drop_zero] at this
    exact this
  · simp only [api_Dec_37.f, if_neg h]
    rw [q_f (fun e => h (by rw [e]))]
    exact Ev.const _
theorem node_q (x y : S32) : q x y = (q x.f0 y.f0 && (q x.f1 y.f1 && (q x.f2 y.f2 && q x.f3 y.f3))) := by
  obtain ⟨a, b, c, d⟩ := x
  obtain ⟨a', b', c', d'⟩ := y
  by_cases h0 : a = a'
  · by_cases h1 : b = b'
    · by_cases h2 : c = c'
      · by_cases h3 : d = d'
        · rw [q_t (by rw [h0, h1, h2, h3])]; simp only [q_t h0, q_t h1, q_t h2, q_t h3]; rfl
        · rw [q_f (fun e => h3 (by injection e))]; simp only [q_f h3, Bool.and_false]
      · rw [q_f (fun e => h2 (by injection e))]; simp only [q_f h2, Bool.and_false, Bool.false_and]
    · rw [q_f (fun e => h1 (by injection e))]; simp only [q_f h1, Bool.and_false, Bool.false_and]
  · rw [q_f (fun e => h0 (by injection e))]; simp only [q_f h0, Bool.false_and]
theorem same1_ev (x y : S32) (h : Fit2 x) : Ev (fun k => array_Same_1.f k x.f0 x.f1 x.f2 x.f3 y.f0 y.f1 y.f2 y.f3) (q x y) := by
  obtain ⟨h1, h2, h3⟩ := h
  rw [node_q]
  by_cases e : x.f0 = y.f0
  · simp only [array_Same_1.f, if_pos e, q_t e, Bool.true_and]
    refine Ev.bind (eqi_ev x.f1 y.f1 (by omega)) ?_
    cases q x.f1 y.f1 with
    | false => exact Ev.const _
    | true =>
      refine Ev.bind (eqi_ev x.f2 y.f2 (by omega)) ?_
      cases q x.f2 y.f2 with
      | false => exact Ev.const _
      | true => exact Ev.bind (eqd_ev x.f3 y.f3 (by omega)) (Ev.const _)
  · simp only [array_Same_1.f, if_neg e, q_f e, Bool.false_and]; exact Ev.const _
theorem eqn_loop (a b : List S32) (he : a.length = b.length) (hl : a.length ≤ 100) (hf : ∀ n ∈ a, Fit2 n) : ∀ d i, i ≤ a.length → a.length - i = d → Ev (fun k => api_Node_34.l0 k b a (a.length : Int) (i : Int)) (q (a.drop i) (b.drop i)) := by
  intro d
  induction d with
  | zero =>
    intro i h1 h2
    rw [q_nil (by omega) (by omega)]
    refine Ev.succ ?_
    simp only [api_Node_34.l0, if_neg (show ¬ ((i : Int) < (a.length : Int)) by omega)]
    exact Ev.const _
  | succ d ih =>
    intro i h1 h2
    have hi : i < a.length := by omega
    have hb : i < b.length := by omega
    have hv := ih (i + 1) (by omega) (by omega)
    refine Ev.succ ?_
    simp only [api_Node_34.l0, if_pos (show ((i : Int) < (a.length : Int)) by omega), if_pos (show ((i : Int) < (b.length : Int)) by omega), if_pos (show (0 : Int) ≤ (i : Int) by omega), ix hi (by omega), rdT_at a i hi, rdT_at b i hb]
    refine Ev.bind (same1_ev a[i] b[i] (hf _ (List.getElem_mem _))) ?_
    by_cases g : a[i] = b[i]
    · rw [q_eq hi hb g]; simp only [q_t g, if_true]; exact hv
    · rw [q_ne hi hb g]; simp only [q_f g, Bool.false_eq_true, if_false]; exact Ev.const _
theorem same_q (a b : List S32) (hl : a.length ≤ 100) (hf : ∀ n ∈ a, Fit2 n) : Ev (fun k => array_Same.f k a b) (q a b) := by
  simp only [array_Same.f]
  refine Ev.bind ?_ (Ev.const _)
  by_cases h : (a.length : Int) = (b.length : Int)
  · simp only [api_Node_34.f, if_pos h]
    have := eqn_loop a b (by omega) hl hf a.length 0 (by omega) (by omega)
    simp only [List.drop_zero] at this
    exact this
  · simp only [api_Node_34.f, if_neg h]
    rw [q_f (fun e => h (by rw [e]))]
    exact Ev.const _
def nS (s l : List Int) : S32 := ⟨3, s, l, []⟩
theorem ok_nS (s l : List Int) : ∀ n ∈ [nS s l], Ok n := fun n hn => by
  rw [List.mem_singleton.1 hn]
  intro y hy
  simp [nS] at hy
theorem copy_nS (s l : List Int) (hs : s.length ≤ 30) (hl : l.length ≤ 100) : array_Copy.f [nS s l] = some [nS s l] := by
  unfold array_Copy.f
  rw [if_pos ⟨by simp, fun x hx => by rw [List.mem_singleton.1 hx]; show s.length < _ ∧ l.length < _ ∧ _; simp only [nS, List.length_nil]; omega⟩]
theorem tr_ev (s l : List Int) (hs : s.length ≤ 30) (hl : l.length ≤ 100) : Ev (fun k => tight_Right.f k [nS s l]) (rt [nS s l]) := by
  have hr := right_ev [nS s l] (ok_nS s l) (by simp)
  simp only [tight_Right.f, tight_Make.f]
  cases h : rt [nS s l] with
  | false =>
    rw [h] at hr
    refine Ev.bind (u := ([], false)) (Ev.bind hr ?_) ?_
    · simp only [Bool.false_eq_true, if_false]; exact Ev.const _
    · simp only [Bool.false_eq_true, if_false]; exact Ev.const _
  | true =>
    rw [h] at hr
    have hf : Ev (fun k => tight_form.f k [nS s l]) [nS s l] := by
      refine Ev.succ ?_
      simp only [tight_form.f, List.length_singleton, if_pos (show (0 : Int) < ((1 : Nat) : Int) by decide), show rd_T32 [nS s l] 0 = nS s l from rfl, if_pos (show (nS s l).f0 = 3 from rfl), copy_nS s l hs hl, Option.bind_some]
      exact Ev.const _
    refine Ev.bind (u := ([nS s l], true)) (Ev.bind hr ?_) ?_
    · simp only [if_true]
      exact Ev.bind hf (Ev.const _)
    · simp only [if_true]
      have hq := same_q [nS s l] [nS s l] (by simp) (fun n hn => by rw [List.mem_singleton.1 hn]; exact ⟨by show s.length ≤ _; omega, by show l.length ≤ _; omega, by show 0 ≤ _; omega⟩)
      rw [q_t rfl] at hq
      exact Ev.bind hq (Ev.const _)
theorem alone_ev (s l : List Int) (hs : 0 < s.length) : Ev (fun k => system_alone.f k [nS s l]) (0, 0, false) := by
  simp only [system_alone.f, List.length_singleton, if_pos (show (0 : Int) < ((1 : Nat) : Int) by decide), show rd_T32 [nS s l] 0 = nS s l from rfl, if_pos (show (((nS s l).f1.length : Nat) : Int) > 0 by show ((s.length : Nat) : Int) > 0; omega)]
  exact Ev.const _
theorem whole0 : Ev (fun k => decimal_Whole.f k 0 0) (0, true) :=
  ⟨60, fun k hk => at_rounds (g := fun k => decimal_Whole.f k 0 0) (fun k => decimal_Whole.mono _ _ k) hk (by decide +kernel)⟩
theorem between_ev (s l : List Int) (a b : Int) (hs : 0 < s.length) : Ev (fun k => system_between.f k [nS s l] a b) false := by
  simp only [system_between.f]
  refine Ev.bind (alone_ev s l hs) (Ev.bind whole0 ?_)
  simp only [Bool.false_eq_true, if_false]
  exact Ev.const _
def lx : List UInt8 := [226, 142, 149, 76, 88]
theorem sys_ev (b : ByteArray) (s l : List Int) (h0 : 0 < s.length) (hs : s.length ≤ 30) (hl : l.length ≤ 100) : Ev (fun k => system_Right.f k b [nS s l]) (rt [nS s l] && (decide (b.toList = lx) && decide ((s.length : Int) < 2))) := by
  simp only [system_Right.f]
  refine Ev.bind (tr_ev s l hs hl) ?_
  cases rt [nS s l] with
  | false => simp only [Bool.false_eq_true, if_false, Bool.false_and]; exact Ev.const _
  | true =>
    simp only [if_true, Bool.true_and]
    have no : ∀ x : List UInt8, b.toList = x → x ≠ lx → (decide (b.toList = lx) && decide ((s.length : Int) < 2)) = false := fun x h1 h2 => by rw [decide_eq_false (fun e => h2 (h1.symm.trans e))]; rfl
    by_cases c1 : b.toList = [226, 142, 149, 67, 84]
    · rw [no _ c1 (by decide)]
      simp only [if_pos c1]
      refine Ev.bind (alone_ev s l h0) ?_
      simp only [Bool.false_eq_true, if_false]; exact Ev.const _
    · simp only [if_neg c1]
      by_cases c2 : b.toList = [226, 142, 149, 73, 79]
      · rw [no _ c2 (by decide)]
        simp only [if_pos c2]
        exact Ev.bind (between_ev s l _ _ h0) (Ev.const _)
      · simp only [if_neg c2]
        by_cases c3 : b.toList = [226, 142, 149, 76, 88]
        · rw [decide_eq_true (show b.toList = lx from c3), Bool.true_and]
          simp only [if_pos c3, List.length_singleton, if_pos (show (0 : Int) < ((1 : Nat) : Int) by decide), show rd_T32 [nS s l] 0 = nS s l from rfl, if_pos (show (nS s l).f0 = 3 from rfl)]
          exact Ev.const _
        · rw [decide_eq_false (show ¬ b.toList = lx from c3), Bool.false_and]
          simp only [if_neg c3]
          by_cases c4 : b.toList = [226, 142, 149, 80, 80]
          · simp only [if_pos c4]
            exact Ev.bind (between_ev s l _ _ h0) (Ev.const _)
          · simp only [if_neg c4]
            by_cases c5 : b.toList = [226, 142, 149, 80, 87]
            · simp only [if_pos c5]
              exact Ev.bind (between_ev s l _ _ h0) (Ev.const _)
            · simp only [if_neg c5]
              by_cases c6 : b.toList = [226, 142, 149, 82, 76]
              · simp only [if_pos c6]
                exact Ev.bind (between_ev s l _ _ h0) (Ev.const _)
              · simp only [if_neg c6]
                exact Ev.const _
theorem small_ev : Ev (fun k => decklelaw17_small.f k) true :=
  ⟨200, fun k hk => at_rounds (g := fun k => decklelaw17_small.f k) (fun k => decklelaw17_small.mono k) hk (by decide +kernel)⟩
theorem signs_loop (l : List Int) (ns : List ByteArray) (hn : ns.length = 6) (hl : l.length ≤ 100) : ∀ d i, i ≤ ns.length → ns.length - i = d →
    Ev (fun k => decklelaw17_SystemSigns.l0 k l true [nS [(l.length : Int)] l] (rt [nS [(l.length : Int)] l]) ns (i : Int)) true := by
  intro d
  induction d with
  | zero =>
    intro i h1 h2
    refine Ev.succ ?_
    simp only [decklelaw17_SystemSigns.l0, if_neg (show ¬ ((i : Int) < (ns.length : Int)) by omega), if_true, if_pos (show (ns.length : Int) = 6 by omega)]
    have := sys_ev ⟨#[226, 142, 149, 76, 88]⟩ [1, (l.length : Int)] l (by simp) (by simp) hl
    refine Ev.bind this ?_
    rw [decide_eq_false (show ¬ ((([1, (l.length : Int)] : List Int).length : Int) < 2) by simp), Bool.and_false, Bool.and_false]
    exact Ev.const _
  | succ d ih =>
    intro i h1 h2
    have hi : i < ns.length := by omega
    have hv := ih (i + 1) (by omega) (by omega)
    refine Ev.succ ?_
    simp only [decklelaw17_SystemSigns.l0, if_pos (show ((i : Int) < (ns.length : Int)) by omega), if_pos (show (0 : Int) ≤ (i : Int) by omega), ix hi (show ns.length ≤ 9223372036854775807 by omega)]
    generalize rdOf ByteArray.empty ns (i : Int) = b
    refine Ev.bind (sys_ev b [(l.length : Int)] l (by simp) (by simp) hl) ?_
    rw [decide_eq_true (show ((([(l.length : Int)] : List Int).length : Int) < 2) by simp), Bool.and_true]
    revert hv
    cases rt [nS [(l.length : Int)] l] with
    | false =>
      intro hv
      simp only [Bool.false_and, Bool.false_eq_true, if_false, show (false != false) = false from rfl]
      exact hv
    | true =>
      intro hv
      have e : (decide (b.toList = lx) != (b.toList == ([226, 142, 149, 76, 88] : List UInt8))) = false := by
        by_cases c : b.toList = lx
        · rw [decide_eq_true c, show (b.toList == ([226, 142, 149, 76, 88] : List UInt8)) = true from beq_iff_eq.mpr c]; rfl
        · rw [decide_eq_false c, show (b.toList == ([226, 142, 149, 76, 88] : List UInt8)) = false from beq_eq_false_iff_ne.mpr c]; rfl
      simp only [Bool.true_and, if_true, e, Bool.false_eq_true, if_false]
      exact hv
theorem SystemSigns : decklelaw17_SystemSigns.Pure := by
  intro l _ _ hw
  have main : Ev (fun k => decklelaw17_SystemSigns.f k l) true := by
    simp only [decklelaw17_SystemSigns.f]
    refine Ev.bind small_ev ?_
    by_cases g : (l.length : Int) > 100
    · simp only [if_pos g]; exact Ev.const _
    · simp only [if_neg g, Option.bind_some]
      refine Ev.bind (tr_ev [(l.length : Int)] l (by simp) (by omega)) ?_
      simp only [system_Names.f, Option.bind_some]
      exact signs_loop l _ rfl (by omega) 6 0 (by decide) (by decide)
  exact main.get
end Go.Proofs.YtfjhiiaahbjaiaaDoor.Pure
