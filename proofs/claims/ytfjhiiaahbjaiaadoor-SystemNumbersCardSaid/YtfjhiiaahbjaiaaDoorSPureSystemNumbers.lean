/- Which whole numbers alone variables may be: for all whole numbers. -/
import Derived.Test.YtfjhiiaahbjaiaaDoorSSystemNumbersx21
import Derived.Lib.ItoaLen
import Derived.KernelRfl
namespace Go.Proofs.YtfjhiiaahbjaiaaDoor.Pure
open Go.RowKit Go.Proofs.YtfjhiiaahbjaiaaDoor.HSystemSigns Go.Proofs.YtfjhiiaahbjaiaaDoorW.PrintWords Go.Proofs.YtfjhiiaahbjaiaaDoorW.PrintLast Go.Proofs.YtfjhiiaahbjaiaaDoorW.PrintMore
set_option linter.unusedVariables false
set_option linter.unusedSimpArgs false
theorem w64 {n : Int} (h1 : -9223372036854775808 ≤ n) (h2 : n ≤ 9223372036854775807) : wrap64 n = n := by unfold wrap64; omega
theorem rd_at (b : List Int) (m : Nat) (h : m < b.length) : rd b (m : Int) = b[m] := by
  unfold rd
  rw [List.getD_eq_getElem?_getD, Int.toNat_natCast, List.getElem?_eq_getElem h]; rfl
theorem rdT_at (b : List S32) (m : Nat) (h : m < b.length) : rd_T32 b (m : Int) = b[m] := by
  unfold rd_T32
  rw [List.getD_eq_getElem?_getD, Int.toNat_natCast, List.getElem?_eq_getElem h]; rfl
def Ev {α : Type} (g : Nat → Option α) (v : α) : Prop := ∃ k0, ∀ k, k0 ≤ k → g k = some v
theorem Ev.const {α : Type} (v : α) : Ev (fun _ => some v) v := ⟨0, fun _ _ => rfl⟩
theorem Ev.bind {α β : Type} {g : Nat → Option α} {F : Nat → α → Option β} {u : α} {v : β} (h : Ev g u) (h2 : Ev (fun k => F k u) v) : Ev (fun k => (g k).bind (F k)) v := by
  obtain ⟨a, ha⟩ := h
  obtain ⟨b, hb⟩ := h2
  exact ⟨a + b, fun k hk => by show (g k).bind (F k) = some v; rw [ha k (by omega), Option.bind_some]; exact hb k (by omega)⟩
theorem Ev.succ {α : Type} {g : Nat → Option α} {v : α} (h : Ev (fun k => g (k + 1)) v) : Ev g v := by
  obtain ⟨a, ha⟩ := h
  refine ⟨a + 1, fun k hk => ?_⟩
  obtain ⟨j, rfl⟩ : ∃ j, k = j + 1 := ⟨k - 1, by omega⟩
  exact ha j (by omega)
theorem Ev.uniq {α : Type} {g : Nat → Option α} {u v : α} (h : Ev g u) (h2 : Ev g v) : u = v := by
  obtain ⟨a, ha⟩ := h
  obtain ⟨b, hb⟩ := h2
  exact Option.some.inj ((ha (a + b) (by omega)).symm.trans (hb (a + b) (by omega)))
theorem Ev.get {α : Type} {g : Nat → Option α} {v : α} (h : Ev g v) : ∃ k, g k = some v := by
  obtain ⟨a, ha⟩ := h
  exact ⟨a, ha a (Nat.le_refl _)⟩
theorem ix {i n : Nat} (h : i < n) (hn : n ≤ 9223372036854775807) : wrap64 ((i : Int) + 1) = ((i + 1 : Nat) : Int) := by rw [w64 (by omega) (by omega)]; omega
theorem count1_some (a : Int) : ∃ t, shape_Count_1.f a = some t ∧ (t = false → 0 ≤ a ∧ a ≤ 1048576) := by
  unfold shape_Count_1.f
  by_cases h : a < 0
  · exact ⟨true, if_pos h, by simp⟩
  · refine ⟨decide (a > 1048576), if_neg h, fun e => ?_⟩
    have := of_decide_eq_false e
    omega
theorem index1_ev (l : List Int) (hl : l.length ≤ 9223372036854775807) : ∀ d i, i ≤ l.length → l.length - i = d → ∃ v, Ev (fun k => slices_IndexFunc_int_int.l0 k l (l.length : Int) (i : Int)) v := by
  intro d
  induction d with
  | zero =>
    intro i h1 h2
    refine ⟨-1, Ev.succ ?_⟩
    simp only [slices_IndexFunc_int_int.l0, if_neg (show ¬ ((i : Int) < (l.length : Int)) by omega)]
    exact Ev.const _
  | succ d ih =>
    intro i h1 h2
    have hi : i < l.length := by omega
    obtain ⟨t, ht, _⟩ := count1_some (rd l (i : Int))
    obtain ⟨v, hv⟩ := ih (i + 1) (by omega) (by omega)
    cases t with
    | true =>
      refine ⟨(i : Int), Ev.succ ?_⟩
      simp only [slices_IndexFunc_int_int.l0, if_pos (show ((i : Int) < (l.length : Int)) by omega), if_pos (show (0 : Int) ≤ (i : Int) by omega), ht]
      exact Ev.bind (Ev.const _) (Ev.const _)
    | false =>
      refine ⟨v, Ev.succ ?_⟩
      simp only [slices_IndexFunc_int_int.l0, if_pos (show ((i : Int) < (l.length : Int)) by omega), if_pos (show (0 : Int) ≤ (i : Int) by omega), ht, ix hi hl]
      exact Ev.bind (Ev.const _) hv
theorem index_ev (l : List Int) (a : Int) (hl : l.length ≤ 9223372036854775807) : ∀ d i, i ≤ l.length → l.length - i = d → ∃ v, Ev (fun k => slices_Index_int_int.l0 k l a (l.length : Int) (i : Int)) v := by
  intro d
  induction d with
  | zero =>
    intro i h1 h2
    refine ⟨-1, Ev.succ ?_⟩
    simp only [slices_Index_int_int.l0, if_neg (show ¬ ((i : Int) < (l.length : Int)) by omega)]
    exact Ev.const _
  | succ d ih =>
    intro i h1 h2
    have hi : i < l.length := by omega
    obtain ⟨v, hv⟩ := ih (i + 1) (by omega) (by omega)
    by_cases e : a = rd l (i : Int)
    · refine ⟨(i : Int), Ev.succ ?_⟩
      simp only [slices_Index_int_int.l0, if_pos (show ((i : Int) < (l.length : Int)) by omega), if_pos (show (0 : Int) ≤ (i : Int) by omega), if_pos e]
      exact Ev.const _
    · refine ⟨v, Ev.succ ?_⟩
      simp only [slices_Index_int_int.l0, if_pos (show ((i : Int) < (l.length : Int)) by omega), if_pos (show (0 : Int) ≤ (i : Int) by omega), if_neg e, ix hi hl]
      exact hv
theorem countl_ev (l : List Int) (hl : l.length ≤ 9223372036854775807) : ∀ d i x, i ≤ l.length → l.length - i = d → 0 ≤ x → x ≤ 1048576 → ∃ c b, Ev (fun k => shape_Count.l0 k x l (l.length : Int) (i : Int)) (c, b) ∧ 0 ≤ c ∧ c ≤ 1048576 := by
  intro d
  induction d with
  | zero =>
    intro i x h1 h2 hx0 hx1
    refine ⟨x, true, Ev.succ ?_, hx0, hx1⟩
    simp only [shape_Count.l0, if_neg (show ¬ ((i : Int) < (l.length : Int)) by omega)]
    exact Ev.const _
  | succ d ih =>
    intro i x h1 h2 hx0 hx1
    have hi : i < l.length := by omega
    obtain ⟨t, ht, hb⟩ := count1_some (wrap64 (x * rd l (i : Int)))
    cases t with
    | true =>
      refine ⟨0, false, Ev.succ ?_, by omega, by omega⟩
      simp only [shape_Count.l0, if_pos (show ((i : Int) < (l.length : Int)) by omega), if_pos (show (0 : Int) ≤ (i : Int) by omega), ht]
      exact Ev.bind (Ev.const _) (Ev.const _)
    | false =>
      obtain ⟨c, b, hv, h3⟩ := ih (i + 1) (wrap64 (x * rd l (i : Int))) (by omega) (by omega) (hb rfl).1 (hb rfl).2
      refine ⟨c, b, Ev.succ ?_, h3⟩
      simp only [shape_Count.l0, if_pos (show ((i : Int) < (l.length : Int)) by omega), if_pos (show (0 : Int) ≤ (i : Int) by omega), ht, ix hi hl]
      exact Ev.bind (Ev.const _) hv
theorem count_ev (l : List Int) : ∃ c b, Ev (fun k => shape_Count.f k l) (c, b) ∧ 0 ≤ c ∧ c ≤ 1048576 := by
  by_cases h : (l.length : Int) > 16
  · refine ⟨0, false, ?_, by omega, by omega⟩
    simp only [shape_Count.f, if_pos h]
    refine Ev.succ ?_
    simp only [shape_Count.j0]
    exact Ev.const _
  · have hl : l.length ≤ 9223372036854775807 := by omega
    obtain ⟨v1, e1⟩ := index1_ev l hl l.length 0 (by omega) (by omega)
    obtain ⟨v2, e2⟩ := index_ev l 0 hl l.length 0 (by omega) (by omega)
    obtain ⟨c, b, e3, hc⟩ := countl_ev l hl l.length 0 1 (by omega) (by omega) (by omega) (by omega)
    simp only [shape_Count.f, if_neg h, slices_ContainsFunc_int_int.f, slices_IndexFunc_int_int.f]
    have hf : ∀ t, ∃ c b, Ev (fun k => shape_Count.j0 k l t) (c, b) ∧ 0 ≤ c ∧ c ≤ 1048576 := by
      intro t
      cases t with
      | true =>
        refine ⟨0, false, Ev.succ ?_, by omega, by omega⟩
        simp only [shape_Count.j0]
        exact Ev.const _
      | false =>
        cases hd : decide (v2 ≥ 0) with
        | true =>
          refine ⟨0, true, Ev.succ ?_, by omega, by omega⟩
          simp only [shape_Count.j0, slices_Contains_int_int.f, slices_Index_int_int.f]
          refine Ev.bind (u := true) (Ev.bind e2 (by simp only [hd]; exact Ev.const _)) (Ev.const _)
        | false =>
          refine ⟨c, b, Ev.succ ?_, hc⟩
          simp only [shape_Count.j0, slices_Contains_int_int.f, slices_Index_int_int.f]
          exact Ev.bind (u := false) (Ev.bind e2 (by simp only [hd]; exact Ev.const _)) e3
    obtain ⟨c', b', e4, hc'⟩ := hf (decide (v1 ≥ 0))
    exact ⟨c', b', Ev.bind (Ev.bind e1 (Ev.const _)) e4, hc'⟩
theorem valid_ev (a : Int) : ∃ v, Ev (fun k => utf8_ValidRune.f k a) v := by
  have hj : ∀ t, ∃ v, Ev (fun k => utf8_ValidRune.j0 k a t) v := by
    intro t
    cases t with
    | true => exact ⟨true, Ev.succ (by simp only [utf8_ValidRune.j0]; exact Ev.const _)⟩
    | false =>
      by_cases h1 : 57343 < a
      · by_cases h2 : a ≤ 1114111
        · exact ⟨true, Ev.succ (by simp only [utf8_ValidRune.j0, if_pos h1, if_pos h2]; exact Ev.const _)⟩
        · exact ⟨false, Ev.succ (by simp only [utf8_ValidRune.j0, if_pos h1, if_neg h2]; exact Ev.const _)⟩
      · exact ⟨false, Ev.succ (by simp only [utf8_ValidRune.j0, if_neg h1]; exact Ev.const _)⟩
  by_cases h : 0 ≤ a
  · simp only [utf8_ValidRune.f, if_pos h]; exact hj _
  · simp only [utf8_ValidRune.f, if_neg h]; exact hj _
theorem fits_ev (a b : Int) : ∃ v, Ev (fun k => array_fits.f k a b) v := by
  by_cases h1 : a = 1
  · simp only [array_fits.f, if_pos h1]; exact ⟨_, Ev.const _⟩
  · by_cases h2 : a = 2
    · simp only [array_fits.f, if_neg h1, if_pos h2]; exact ⟨_, Ev.const _⟩
    · by_cases h3 : a = 3
      · by_cases h4 : b = wrap64 (wrap32 b)
        · obtain ⟨v, hv⟩ := valid_ev (wrap32 b)
          refine ⟨v, ?_⟩
          simp only [array_fits.f, if_neg h1, if_neg h2, if_pos h3, if_pos h4]
          exact Ev.bind hv (Ev.const _)
        · simp only [array_fits.f, if_neg h1, if_neg h2, if_pos h3, if_neg h4]; exact ⟨_, Ev.const _⟩
      · simp only [array_fits.f, if_neg h1, if_neg h2, if_neg h3]; exact ⟨_, Ev.const _⟩
theorem wrongs_ev (l : List Int) (a : Int) (hl : l.length ≤ 9223372036854775807) : ∀ d i, i ≤ l.length → l.length - i = d → ∃ v, Ev (fun k => array_wrongs_int.l0 k a l (l.length : Int) (i : Int)) v := by
  intro d
  induction d with
  | zero =>
    intro i h1 h2
    refine ⟨false, Ev.succ ?_⟩
    simp only [array_wrongs_int.l0, if_neg (show ¬ ((i : Int) < (l.length : Int)) by omega)]
    exact Ev.const _
  | succ d ih =>
    intro i h1 h2
    have hi : i < l.length := by omega
    obtain ⟨t, ht⟩ := fits_ev a (rd l (i : Int))
    obtain ⟨v, hv⟩ := ih (i + 1) (by omega) (by omega)
    cases t with
    | true =>
      refine ⟨v, Ev.succ ?_⟩
      simp only [array_wrongs_int.l0, if_pos (show ((i : Int) < (l.length : Int)) by omega), if_pos (show (0 : Int) ≤ (i : Int) by omega), array_items_1.f, ix hi hl]
      exact Ev.bind (u := true) (Ev.bind ht (Ev.const _)) hv
    | false =>
      refine ⟨true, Ev.succ ?_⟩
      simp only [array_wrongs_int.l0, if_pos (show ((i : Int) < (l.length : Int)) by omega), if_pos (show (0 : Int) ≤ (i : Int) by omega), array_items_1.f]
      exact Ev.bind (u := false) (Ev.bind ht (Ev.const _)) (Ev.const _)
theorem norm_ev : ∀ (d : Nat) (x e : Int), -9223372036854775808 ≤ e → e ≤ 9223372036854775807 → (32768 - e).toNat ≤ d → ∃ v, Ev (fun k => decimal_Norm.l0 k x e) v := by
  intro d
  induction d with
  | zero =>
    intro x e h1 h2 h3
    have h4 : ¬ e ≤ 32767 := by omega
    have h5 : ¬ e < -32768 := by omega
    have h6 : e > 32767 := by omega
    refine ⟨(0, 0, false), Ev.succ ?_⟩
    by_cases h : Int.tmod x 10 = 0
    · simp only [decimal_Norm.l0, if_pos h, if_neg h4, if_neg h5, if_pos h6]; exact Ev.const _
    · simp only [decimal_Norm.l0, if_neg h, if_neg h5, if_pos h6]; exact Ev.const _
  | succ d ih =>
    intro x e h1 h2 h3
    have hl : ∃ v : Int × Int × Bool, (if e < -32768 then some (0, 0, false) else if e > 32767 then some (0, 0, false) else some (x, e, true)) = some v := by
      split
      · exact ⟨_, rfl⟩
      · split <;> exact ⟨_, rfl⟩
    obtain ⟨v, hv⟩ := hl
    by_cases h : Int.tmod x 10 = 0
    · by_cases h4 : e ≤ 32767
      · have hw : wrap64 (e + 1) = e + 1 := w64 (by omega) (by omega)
        obtain ⟨v', hv'⟩ := ih (wrap64 (Int.tdiv x 10)) (wrap64 (e + 1)) (by omega) (by omega) (by omega)
        refine ⟨v', Ev.succ ?_⟩
        simp only [decimal_Norm.l0, if_pos h, if_pos h4]; exact hv'
      · refine ⟨v, Ev.succ ?_⟩
        simp only [decimal_Norm.l0, if_pos h, if_neg h4, hv]; exact Ev.const _
    · refine ⟨v, Ev.succ ?_⟩
      simp only [decimal_Norm.l0, if_neg h, hv]; exact Ev.const _
def OkD (y : S40) : Prop := -9223372036854775808 ≤ y.f1 ∧ y.f1 ≤ 9223372036854775807
def Ok (n : S32) : Prop := ∀ y ∈ n.f3, OkD y
theorem decright_ev (y : S40) (h : OkD y) : ∃ v, Ev (fun k => decimal_Right.f k y.f0 y.f1) v := by
  have hn : ∃ v, Ev (fun k => decimal_Norm.f k y.f0 y.f1) v := by
    by_cases h0 : y.f0 = 0
    · simp only [decimal_Norm.f, if_pos h0]; exact ⟨_, Ev.const _⟩
    · simp only [decimal_Norm.f, if_neg h0]; exact norm_ev _ y.f0 y.f1 h.1 h.2 (Nat.le_refl _)
  obtain ⟨⟨a, b, c⟩, hv⟩ := hn
  cases c with
  | true => exact ⟨_, Ev.bind hv (Ev.const _)⟩
  | false => exact ⟨_, Ev.bind hv (Ev.const _)⟩
theorem decs_ev (l : List S40) (ok : ∀ y ∈ l, OkD y) (hl : l.length ≤ 9223372036854775807) : ∀ d i, i ≤ l.length → l.length - i = d → ∃ v, Ev (fun k => api_Dec_91.l0 k l (l.length : Int) (i : Int)) v := by
  intro d
  induction d with
  | zero =>
    intro i h1 h2
    refine ⟨false, Ev.succ ?_⟩
    simp only [api_Dec_91.l0, if_neg (show ¬ ((i : Int) < (l.length : Int)) by omega)]
    exact Ev.const _
  | succ d ih =>
    intro i h1 h2
    have hi : i < l.length := by omega
    have hr : rd_T40 l (i : Int) = l[i] := by
      unfold rd_T40
      rw [List.getD_eq_getElem?_getD, Int.toNat_natCast, List.getElem?_eq_getElem hi]; rfl
    obtain ⟨t, ht⟩ := decright_ev (rd_T40 l (i : Int)) (by rw [hr]; exact ok _ (List.getElem_mem _))
    obtain ⟨v, hv⟩ := ih (i + 1) (by omega) (by omega)
    cases t with
    | true =>
      refine ⟨v, Ev.succ ?_⟩
      simp only [api_Dec_91.l0, if_pos (show ((i : Int) < (l.length : Int)) by omega), if_pos (show (0 : Int) ≤ (i : Int) by omega), ix hi hl]
      exact Ev.bind ht hv
    | false =>
      refine ⟨true, Ev.succ ?_⟩
      simp only [api_Dec_91.l0, if_pos (show ((i : Int) < (l.length : Int)) by omega), if_pos (show (0 : Int) ≤ (i : Int) by omega)]
      exact Ev.bind ht (Ev.const _)
theorem items1_ev (x3 x5 x6 a a' : Int) (b c : List Int) (e : List S40) (ok : ∀ y ∈ e, OkD y) (h0 : 0 ≤ x3) (h1 : x3 ≤ 1048576) (h5 : x5 ≤ 1048576) (h6 : x6 ≤ 1048576) :
    ∃ v, Ev (fun k => array_items.j1 k x3 x5 x6 a a' b c e) v ∧ (v = -1 ∨ (v = x3 ∧ (c.length : Int) = x5 ∧ (e.length : Int) = x6)) := by
  by_cases g1 : (c.length : Int) = x5
  · by_cases g2 : (e.length : Int) = x6
    · obtain ⟨t, ht⟩ := wrongs_ev c a (by omega) c.length 0 (by omega) (by omega)
      obtain ⟨s, hs⟩ := decs_ev e ok (by omega) e.length 0 (by omega) (by omega)
      cases t with
      | true =>
        refine ⟨-1, Ev.succ ?_, .inl rfl⟩
        simp only [array_items.j1, if_pos g1, if_pos g2, array_wrongs_int.f]
        exact Ev.bind ht (Ev.const _)
      | false =>
        cases s with
        | true =>
          refine ⟨-1, Ev.succ ?_, .inl rfl⟩
          simp only [array_items.j1, if_pos g1, if_pos g2, array_wrongs_int.f, api_Dec_91.f]
          exact Ev.bind ht (Ev.bind hs (Ev.const _))
        | false =>
          refine ⟨x3, Ev.succ ?_, .inr ⟨rfl, g1, g2⟩⟩
          simp only [array_items.j1, if_pos g1, if_pos g2, array_wrongs_int.f, api_Dec_91.f]
          exact Ev.bind ht (Ev.bind hs (Ev.const _))
    · refine ⟨-1, Ev.succ ?_, .inl rfl⟩
      simp only [array_items.j1, if_pos g1, if_neg g2]; exact Ev.const _
  · refine ⟨-1, Ev.succ ?_, .inl rfl⟩
    simp only [array_items.j1, if_neg g1]; exact Ev.const _
theorem items0_ev (x3 a a' : Int) (t : Bool) (b c : List Int) (e : List S40) (ok : ∀ y ∈ e, OkD y) (h0 : 0 ≤ x3) (h1 : x3 ≤ 1048576) :
    ∃ v, Ev (fun k => array_items.j0 k x3 0 0 a t a' b c e) v ∧ (v = -1 ∨ (v = x3 ∧ (a = 5 → t = false → c = [] ∧ e = []) ∧ (a ≠ 5 → v ≤ (c.length : Int) ∨ v ≤ (e.length : Int)))) := by
  cases t with
  | true =>
    obtain ⟨v, hv, hb⟩ := items1_ev x3 x3 0 a a' b c e ok h0 h1 h1 (by omega)
    exact ⟨v, Ev.succ (by simp only [array_items.j0]; exact hv), hb.imp id fun h => ⟨h.1, fun _ h' => by simp at h', fun _ => .inl (by omega)⟩⟩
  | false =>
    by_cases g1 : a = 4
    · obtain ⟨v, hv, hb⟩ := items1_ev x3 0 x3 a a' b c e ok h0 h1 (by omega) h1
      exact ⟨v, Ev.succ (by simp only [array_items.j0, if_pos g1]; exact hv), hb.imp id fun h => ⟨h.1, fun h' _ => by omega, fun _ => .inr (by omega)⟩⟩
    · by_cases g2 : a = 5
      · obtain ⟨v, hv, hb⟩ := items1_ev x3 0 0 a a' b c e ok h0 h1 (by omega) (by omega)
        exact ⟨v, Ev.succ (by simp only [array_items.j0, if_neg g1, if_pos g2]; exact hv), hb.imp id fun h => ⟨h.1, fun _ _ => ⟨List.eq_nil_of_length_eq_zero (by omega), List.eq_nil_of_length_eq_zero (by omega)⟩, fun h' => absurd g2 h'⟩⟩
      · exact ⟨-1, Ev.succ (by simp only [array_items.j0, if_neg g1, if_neg g2]; exact Ev.const _), .inl rfl⟩
def Spec (n : S32) (v : Int) : Prop := Ev (fun k => shape_Count.f k n.f1) (v, true) ∧ 0 ≤ v ∧ v ≤ 1048576 ∧ (n.f0 = 5 → n.f2 = [] ∧ n.f3 = []) ∧ (n.f0 ≠ 5 → v ≤ (n.f2.length : Int) ∨ v ≤ (n.f3.length : Int))
theorem items_ev (n : S32) (ok : Ok n) : ∃ v, Ev (fun k => array_items.f k n.f0 n.f1 n.f2 n.f3) v ∧ (v = -1 ∨ Spec n v) := by
  obtain ⟨c, b, hc, h0, h1⟩ := count_ev n.f1
  cases b with
  | true =>
    have hr : ∃ v, Ev (fun k => (if n.f0 = 1 then (array_items.j0 k c 0 0 n.f0 (n.f0 == 1) n.f0 n.f1 n.f2 n.f3) else (if n.f0 = 2 then (array_items.j0 k c 0 0 n.f0 (n.f0 == 2) n.f0 n.f1 n.f2 n.f3) else (array_items.j0 k c 0 0 n.f0 (n.f0 == 3) n.f0 n.f1 n.f2 n.f3)))) v ∧ (v = -1 ∨ (v = c ∧ (n.f0 = 5 → n.f2 = [] ∧ n.f3 = []) ∧ (n.f0 ≠ 5 → v ≤ (n.f2.length : Int) ∨ v ≤ (n.f3.length : Int)))) := by
      by_cases g1 : n.f0 = 1
      · simp only [if_pos g1]
        obtain ⟨v, hv, hb⟩ := items0_ev c n.f0 n.f0 (n.f0 == 1) n.f1 n.f2 n.f3 ok h0 h1
        exact ⟨v, hv, hb.imp id fun h => ⟨h.1, fun h' => by omega, h.2.2⟩⟩
      · by_cases g2 : n.f0 = 2
        · simp only [if_neg g1, if_pos g2]
          obtain ⟨v, hv, hb⟩ := items0_ev c n.f0 n.f0 (n.f0 == 2) n.f1 n.f2 n.f3 ok h0 h1
          exact ⟨v, hv, hb.imp id fun h => ⟨h.1, fun h' => by omega, h.2.2⟩⟩
        · simp only [if_neg g1, if_neg g2]
          obtain ⟨v, hv, hb⟩ := items0_ev c n.f0 n.f0 (n.f0 == 3) n.f1 n.f2 n.f3 ok h0 h1
          exact ⟨v, hv, hb.imp id fun h => ⟨h.1, fun h' => h.2.1 h' (beq_eq_false_iff_ne.mpr (by omega)), h.2.2⟩⟩
    obtain ⟨v, hv, hb⟩ := hr
    refine ⟨v, ?_, hb.imp id fun h => ?_⟩
    · simp only [array_items.f]
      exact Ev.bind hc hv
    · refine ⟨by rw [h.1]; exact hc, by rw [h.1]; exact h0, by rw [h.1]; exact h1, h.2⟩
  | false =>
    refine ⟨-1, ?_, .inl rfl⟩
    simp only [array_items.f]
    exact Ev.bind hc (Ev.const _)
noncomputable def itm (n : S32) : Int := open Classical in if h : ∃ v, Ev (fun k => array_items.f k n.f0 n.f1 n.f2 n.f3) v ∧ (v = -1 ∨ Spec n v) then h.choose else -1
theorem itm_le (n : S32) : itm n ≤ 1048576 := by
  unfold itm
  split
  · next h =>
    rcases h.choose_spec.2 with e | e
    · omega
    · exact e.2.2.1
  · omega
theorem itm_said (n : S32) (ok : Ok n) : Ev (fun k => array_items.f k n.f0 n.f1 n.f2 n.f3) (itm n) ∧ (itm n = -1 ∨ Spec n (itm n)) := by
  obtain ⟨v, hv, hb⟩ := items_ev n ok
  have h : ∃ v, Ev (fun k => array_items.f k n.f0 n.f1 n.f2 n.f3) v ∧ (v = -1 ∨ Spec n v) := ⟨v, hv, hb⟩
  have e : itm n = v := by
    unfold itm
    rw [dif_pos h]
    exact Ev.uniq h.choose_spec.1 hv
  rw [e]
  exact ⟨hv, hb⟩
theorem itm_ev (n : S32) (ok : Ok n) : Ev (fun k => array_items.f k n.f0 n.f1 n.f2 n.f3) (itm n) ∧ -1 ≤ itm n ∧ itm n ≤ 1048576 := by
  obtain ⟨h, hb⟩ := itm_said n ok
  refine ⟨h, ?_⟩
  rcases hb with e | e
  · omega
  · have := e.2.1
    have := e.2.2.1
    omega
def dec1 (v : Int) : Int := wrap64 (v - 1)
def decT : List Int → List Int
  | [] => []
  | x :: s => dec1 x :: s
theorem decT_length (s : List Int) : (decT s).length = s.length := by cases s <;> rfl
def clrN : Nat → List Int → List Int
  | 0, s => s
  | _ + 1, [] => []
  | n + 1, x :: s => if x = 0 then clrN n (decT s) else x :: s
def clr (s : List Int) : List Int := clrN s.length s
theorem clr_nil : clr [] = [] := rfl
theorem clr_cons (x : Int) (s : List Int) : clr (x :: s) = if x = 0 then clr (decT s) else x :: s := by
  unfold clr
  rw [decT_length]; rfl
theorem clr_length : ∀ (n : Nat) (s : List Int), s.length ≤ n → (clr s).length ≤ s.length := by
  intro n
  induction n with
  | zero =>
    intro s hs
    obtain rfl := List.eq_nil_of_length_eq_zero (Nat.le_zero.1 hs)
    exact Nat.le_refl _
  | succ n ih =>
    intro s hs
    cases s with
    | nil => exact Nat.le_refl _
    | cons x s =>
      rw [clr_cons]
      split
      · have := ih (decT s) (by rw [decT_length]; simp only [List.length_cons] at hs; omega)
        rw [decT_length] at this
        simp only [List.length_cons]; omega
      · exact Nat.le_refl _
noncomputable def push (st : List Int) (n : S32) : List Int := if n.f0 = 5 then itm n :: st else decT st
theorem push_length (st : List Int) (n : S32) : (push st n).length ≤ st.length + 1 := by
  unfold push
  split
  · exact Nat.le_refl _
  · rw [decT_length]; omega
open Classical in
noncomputable def walkS : Int → Int → List Int → Int → List S32 → Int × Int × Int
  | _, _, _, _, [] => (0, 0, 0)
  | all, deep, st, i, n :: r =>
    if itm n < 0 ∨ wrap64 (all + itm n) > 1048576 ∨ 16 ≤ st.length then (0, 0, 0)
    else if clr (push st n) = [] then (i + 1, wrap64 (all + itm n), mx deep (wrap64 ((st.length : Int) + 1)))
    else walkS (wrap64 (all + itm n)) (mx deep (wrap64 ((st.length : Int) + 1))) (clr (push st n)) (i + 1) r
theorem last_ix {n : Nat} (h : 0 < n) (hn : n ≤ 9223372036854775807) : wrap64 ((n : Int) - 1) = ((n - 1 : Nat) : Int) := by rw [w64 (by omega) (by omega)]; omega
theorem rev_last (x : Int) (s : List Int) : rd (x :: s).reverse ((s.length : Nat) : Int) = x := by
  rw [rd_at _ _ (by simp)]
  simp
theorem rev_set (x v : Int) (s : List Int) : (x :: s).reverse.set s.length v = (v :: s).reverse := by
  simp only [List.reverse_cons]
  rw [List.set_append_right _ _ (by simp)]
  simp
theorem rev_take (x : Int) (s : List Int) : (x :: s).reverse.take s.length = s.reverse := by
  rw [List.reverse_cons]
  rw [List.take_append_of_le_length (by simp)]
  exact List.take_of_length_le (by simp)
theorem pop_ev (all deep i6 : Int) (x9 : List S32) (x10 x11 : Int) (v : Int × Int × Int) : ∀ (n : Nat) (st : List Int), st.length ≤ n → st.length ≤ 100 →
    Ev (fun k => array_walk.j4 k all deep (clr st).reverse i6 x9 x10 x11 false) v → Ev (fun k => array_walk.l1 k all deep st.reverse i6 x9 x10 x11) v := by
  intro n
  induction n with
  | zero =>
    intro st hs hc h
    obtain rfl := List.eq_nil_of_length_eq_zero (Nat.le_zero.1 hs)
    refine Ev.succ ?_
    simp only [array_walk.l1, List.reverse_nil, List.length_nil, if_neg (show ¬ (((0 : Nat) : Int) > 0) by decide)]
    exact h
  | succ n ih =>
    intro st hs hc h
    cases st with
    | nil =>
      refine Ev.succ ?_
      simp only [array_walk.l1, List.reverse_nil, List.length_nil, if_neg (show ¬ (((0 : Nat) : Int) > 0) by decide)]
      exact h
    | cons x s =>
      simp only [List.length_cons] at hs hc
      have hL : (x :: s).reverse.length = s.length + 1 := by simp
      have hw : wrap64 (((s.length + 1 : Nat) : Int) - 1) = ((s.length : Nat) : Int) := last_ix (by omega) (by omega)
      refine Ev.succ ?_
      simp only [array_walk.l1, hL, hw, if_pos (show (((s.length + 1 : Nat) : Int) > 0) by omega), if_pos (show (0 : Int) ≤ ((s.length : Nat) : Int) by omega), if_pos (show ((s.length : Nat) : Int) < ((s.length + 1 : Nat) : Int) by omega), rev_last]
      rw [clr_cons] at h
      by_cases e : x = 0
      · rw [if_pos e] at h
        subst e
        refine Ev.succ ?_
        simp only [array_walk.j4, hL, hw, BEq.rfl, if_true, if_pos (show (0 : Int) ≤ ((s.length : Nat) : Int) by omega), if_pos (show ((s.length : Nat) : Int) ≤ ((s.length + 1 : Nat) : Int) by omega), Int.toNat_natCast, rev_take, Option.bind_some, List.length_reverse]
        cases s with
        | nil =>
          simp only [List.length_nil, if_neg (show ¬ (((0 : Nat) : Int) > 0) by decide)]
          exact ih [] (by simp) (by simp) h
        | cons y s =>
          have hw2 : wrap64 (((s.length + 1 : Nat) : Int) - 1) = ((s.length : Nat) : Int) := last_ix (by omega) (by simp only [List.length_cons] at hc; omega)
          simp only [List.length_cons, hw2, if_pos (show (((s.length + 1 : Nat) : Int) > 0) by omega), if_pos (show (0 : Int) ≤ ((s.length : Nat) : Int) by omega), if_pos (show ((s.length : Nat) : Int) < ((s.length + 1 : Nat) : Int) by omega), rev_last, Int.toNat_natCast, rev_set]
          exact ih (dec1 y :: s) (by simp only [List.length_cons] at hs ⊢; omega) (by simp only [List.length_cons] at hc ⊢; omega) h
      · rw [if_neg e] at h
        rw [show (x == 0) = false from beq_eq_false_iff_ne.mpr e]
        exact h
theorem walk_ev (l : List S32) (ok : ∀ n ∈ l, Ok n) (hl : l.length ≤ 9223372036854775807) : ∀ d i, i ≤ l.length → l.length - i = d → ∀ (all deep : Int) (st : List Int), st.length ≤ 17 →
    Ev (fun k => array_walk.l0 k all deep st.reverse l (l.length : Int) (i : Int)) (walkS all deep st (i : Int) (l.drop i)) := by
  intro d
  induction d with
  | zero =>
    intro i h1 h2 all deep st hs
    have hd : l.drop i = [] := List.drop_eq_nil_of_le (by omega)
    rw [hd]
    refine Ev.succ ?_
    simp only [array_walk.l0, if_neg (show ¬ ((i : Int) < (l.length : Int)) by omega)]
    exact Ev.const _
  | succ d ih =>
    intro i h1 h2 all deep st hs
    have hi : i < l.length := by omega
    have hd : l.drop i = l[i] :: l.drop (i + 1) := (List.drop_eq_getElem_cons hi)
    rw [hd]
    generalize hn : l[i] = n
    have okn : Ok n := by rw [← hn]; exact ok _ (List.getElem_mem _)
    obtain ⟨hit, hb0, hb1⟩ := itm_ev n okn
    have hrd : rd_T32 l (i : Int) = n := by rw [rdT_at l i hi, hn]
    have hfail : ∀ (a b : Int), Ev (fun k => array_walk.j1 k (wrap64 (all + itm n)) deep st.reverse (i : Int) (itm n) l (l.length : Int) (i : Int) true n.f0 n.f1 n.f2 n.f3) (0, 0, 0) := fun _ _ => Ev.succ (by simp only [array_walk.j1]; exact Ev.const _)
    have hgo : st.length < 16 → Ev (fun k => array_walk.j2 k (wrap64 (all + itm n)) (mx deep (wrap64 ((st.length : Int) + 1))) (push st n).reverse (i : Int) l (l.length : Int) (i : Int))
        (if clr (push st n) = [] then ((i : Int) + 1, wrap64 (all + itm n), mx deep (wrap64 ((st.length : Int) + 1))) else walkS (wrap64 (all + itm n)) (mx deep (wrap64 ((st.length : Int) + 1))) (clr (push st n)) ((i : Int) + 1) (l.drop (i + 1))) := by
      intro hst
      refine Ev.succ ?_
      simp only [array_walk.j2]
      have hp := push_length st n
      refine pop_ev _ _ _ _ _ _ _ (push st n).length (push st n) (Nat.le_refl _) (by omega) ?_
      refine Ev.succ ?_
      simp only [array_walk.j4, Bool.false_eq_true, if_false, List.length_reverse]
      have hcl := clr_length (push st n).length (push st n) (Nat.le_refl _)
      by_cases e : clr (push st n) = []
      · simp only [e, List.length_nil, if_pos (show (((0 : Nat) : Int)) = 0 by rfl), if_true]
        rw [show wrap64 ((i : Int) + 1) = (i : Int) + 1 by rw [ix hi hl]; omega]
        exact Ev.const _
      · have hz : ¬ (((clr (push st n)).length : Int) = 0) := fun h0 => e (List.eq_nil_of_length_eq_zero (by omega))
        simp only [if_neg e, if_neg hz, ix hi hl]
        have hi1 : ((i : Int) + 1) = ((i + 1 : Nat) : Int) := by omega
        rw [hi1]
        exact ih (i + 1) (by omega) (by omega) _ _ _ (by omega)
    refine Ev.succ ?_
    simp only [array_walk.l0, if_pos (show ((i : Int) < (l.length : Int)) by omega), if_pos (show (0 : Int) ≤ (i : Int) by omega), hrd]
    refine Ev.bind hit ?_
    by_cases g1 : itm n < 0
    · simp only [walkS, if_pos g1, if_pos (show itm n < 0 ∨ wrap64 (all + itm n) > 1048576 ∨ 16 ≤ st.length from .inl g1)]
      exact hfail 0 0
    · by_cases g2 : wrap64 (all + itm n) > 1048576
      · simp only [walkS, if_neg g1, if_pos g2, if_pos (show itm n < 0 ∨ wrap64 (all + itm n) > 1048576 ∨ 16 ≤ st.length from .inr (.inl g2))]
        exact hfail 0 0
      · simp only [if_neg g1, if_neg g2, List.length_reverse]
        by_cases g3 : 16 ≤ st.length
        · simp only [walkS, if_pos (show itm n < 0 ∨ wrap64 (all + itm n) > 1048576 ∨ 16 ≤ st.length from .inr (.inr g3)), decide_eq_true (show ((st.length : Int) ≥ 16) by omega)]
          exact hfail 0 0
        · simp only [walkS, if_neg (show ¬ (itm n < 0 ∨ wrap64 (all + itm n) > 1048576 ∨ 16 ≤ st.length) from fun h => h.elim g1 fun h => h.elim g2 g3), decide_eq_false (show ¬ ((st.length : Int) ≥ 16) by omega)]
          refine Ev.succ ?_
          simp only [array_walk.j1, Bool.false_eq_true, if_false, List.length_reverse]
          replace hgo := hgo (by omega)
          unfold push at hgo
          by_cases g5 : n.f0 = 5
          · simp only [if_pos g5] at hgo
            simp only [if_pos g5, if_pos (show st.length < 17592186044416 by omega)]
            unfold push
            simp only [if_pos g5]
            rw [List.reverse_cons] at hgo
            exact hgo
          · simp only [if_neg g5] at hgo ⊢
            unfold push
            simp only [if_neg g5]
            cases st with
            | nil => exact hgo
            | cons x s =>
              have hw : wrap64 (((s.length + 1 : Nat) : Int) - 1) = ((s.length : Nat) : Int) := last_ix (by omega) (by simp only [List.length_cons] at hs; omega)
              simp only [List.length_cons, hw, if_pos (show (((s.length + 1 : Nat) : Int) > 0) by omega), if_pos (show (0 : Int) ≤ ((s.length : Nat) : Int) by omega), if_pos (show ((s.length : Nat) : Int) < ((s.length + 1 : Nat) : Int) by omega), rev_last, Int.toNat_natCast, rev_set]
              simp only [List.length_cons] at hgo
              exact hgo
noncomputable def tk (l : List S32) : Int := (walkS 0 0 [] 0 l).1
theorem walkf_ev (l : List S32) (ok : ∀ n ∈ l, Ok n) (hl : l.length ≤ 9223372036854775807) : Ev (fun k => array_walk.f k l) (walkS 0 0 [] 0 l) := by
  have := walk_ev l ok hl l.length 0 (by omega) (by omega) 0 0 [] (by simp)
  simp only [array_walk.f]
  exact this
theorem take_ev (l : List S32) (ok : ∀ n ∈ l, Ok n) (hl : l.length ≤ 9223372036854775807) : Ev (fun k => array_Take.f k l) (tk l) := by
  simp only [array_Take.f]
  exact Ev.bind (walkf_ev l ok hl) (Ev.const _)
noncomputable def rt (l : List S32) : Bool := if (l.length : Int) > 0 then (tk l == (l.length : Int)) else false
theorem right_ev (l : List S32) (ok : ∀ n ∈ l, Ok n) (hl : l.length ≤ 9223372036854775807) : Ev (fun k => array_Right.f k l) (rt l) := by
  unfold rt
  by_cases h : (l.length : Int) > 0
  · simp only [array_Right.f, if_pos h]
    exact Ev.bind (take_ev l ok hl) (Ev.const _)
  · simp only [array_Right.f, if_neg h]
    exact Ev.const _
def Fits (n : S32) : Prop := n.f1.length ≤ 30 ∧ n.f2.length ≤ 300 ∧ n.f3.length ≤ 300
namespace Sh
theorem w64 {n : Int} (h1 : -9223372036854775808 ≤ n) (h2 : n ≤ 9223372036854775807) : wrap64 n = n := by unfold wrap64; omega
theorem rd_at (b : List Int) (m : Nat) (h : m < b.length) : rd b (m : Int) = b[m] := by
  unfold rd
  rw [List.getD_eq_getElem?_getD, Int.toNat_natCast, List.getElem?_eq_getElem h]; rfl
theorem up64 (m : Nat) (h : m ≤ 1000000) : wrap64 ((m : Int) + 1) = ((m + 1 : Nat) : Int) := by rw [w64 (by omega) (by omega)]; omega
def bad (x : Int) : Bool := decide (x < 0 ∨ 1048576 < x)
def isz (x : Int) : Bool := decide (0 = x)
def P : List Int → Int
  | [] => 1
  | x :: r => x * P r
def cnt2 (s : List Int) : Int × Bool := if s.any bad = true then (0, false) else if s.any isz = true then (0, true) else if P s ≤ 1048576 then (P s, true) else (0, false)
def cnt (s : List Int) : Int × Bool := if s.length > 16 then (0, false) else cnt2 s
theorem one_f (a : Int) : shape_Count_1.f a = some (bad a) := by
  unfold shape_Count_1.f bad
  by_cases c : a < 0
  · rw [if_pos c]; simp [c]
  · rw [if_neg c]; simp [c]
theorem ifunc_loop (s : List Int) (hl : s.length ≤ 1000) (d : Nat) : ∀ (K m : Nat), m ≤ s.length → s.length - m = d → d + 1 ≤ K → ∃ r : Int, slices_IndexFunc_int_int.l0 K s (s.length : Int) (m : Int) = some r ∧ decide (r ≥ 0) = (s.drop m).any bad := by
  induction d with
  | zero =>
    intro K m h1 h2 h3
    obtain ⟨K, rfl⟩ : ∃ q, K = q + 1 := ⟨K - 1, by omega⟩
    refine ⟨-1, ?_, ?_⟩
    · simp only [slices_IndexFunc_int_int.l0]; rw [if_neg (by omega)]
    · rw [List.drop_eq_nil_of_le (by omega)]; rfl
  | succ d ih =>
    intro K m h1 h2 h3
    obtain ⟨K, rfl⟩ : ∃ q, K = q + 1 := ⟨K - 1, by omega⟩
    have c : m < s.length := by omega
    rw [List.drop_eq_getElem_cons c, List.any_cons]
    simp only [slices_IndexFunc_int_int.l0]
    rw [if_pos (by omega), if_pos (by omega), if_pos (by omega), rd_at s m c, one_f]
    simp only [Option.bind_some]
    by_cases g : bad s[m] = true
    · rw [if_pos g]
      exact ⟨m, rfl, by rw [g]; simp⟩
    · rw [if_neg g, up64 m (by omega)]
      obtain ⟨r, e1, e2⟩ := ih K (m + 1) (by omega) (by omega) (by omega)
      exact ⟨r, e1, by rw [e2, Bool.eq_false_iff.2 g]; rfl⟩
theorem cfunc_eq (s : List Int) (hl : s.length ≤ 1000) (K : Nat) (hK : s.length + 1 ≤ K) : slices_ContainsFunc_int_int.f K s = some (s.any bad) := by
  obtain ⟨r, e1, e2⟩ := ifunc_loop s hl s.length K 0 (by omega) (by omega) hK
  unfold slices_ContainsFunc_int_int.f slices_IndexFunc_int_int.f
  rw [show (0 : Int) = ((0 : Nat) : Int) from rfl, e1]
  rw [List.drop_zero] at e2
  simp only [Option.bind_some]
  rw [← e2]; rfl
theorem index_loop (s : List Int) (hl : s.length ≤ 1000) (d : Nat) : ∀ (K m : Nat), m ≤ s.length → s.length - m = d → d + 1 ≤ K → ∃ r : Int, slices_Index_int_int.l0 K s 0 (s.length : Int) (m : Int) = some r ∧ decide (r ≥ 0) = (s.drop m).any isz := by
  induction d with
  | zero =>
    intro K m h1 h2 h3
    obtain ⟨K, rfl⟩ : ∃ q, K = q + 1 := ⟨K - 1, by omega⟩
    refine ⟨-1, ?_, ?_⟩
    · simp only [slices_Index_int_int.l0]; rw [if_neg (by omega)]
    · rw [List.drop_eq_nil_of_le (by omega)]; rfl
  | succ d ih =>
    intro K m h1 h2 h3
    obtain ⟨K, rfl⟩ : ∃ q, K = q + 1 := ⟨K - 1, by omega⟩
    have c : m < s.length := by omega
    rw [List.drop_eq_getElem_cons c, List.any_cons]
    simp only [slices_Index_int_int.l0]
    rw [if_pos (by omega), if_pos (by omega), if_pos (by omega), rd_at s m c]
    by_cases g : 0 = s[m]
    · rw [if_pos g]
      exact ⟨m, rfl, by unfold isz; rw [decide_eq_true g]; simp⟩
    · rw [if_neg g, up64 m (by omega)]
      obtain ⟨r, e1, e2⟩ := ih K (m + 1) (by omega) (by omega) (by omega)
      exact ⟨r, e1, by unfold isz at e2 ⊢; rw [e2, decide_eq_false g]; rfl⟩
theorem cont_eq (s : List Int) (hl : s.length ≤ 1000) (K : Nat) (hK : s.length + 1 ≤ K) : slices_Contains_int_int.f K s 0 = some (s.any isz) := by
  obtain ⟨r, e1, e2⟩ := index_loop s hl s.length K 0 (by omega) (by omega) hK
  unfold slices_Contains_int_int.f slices_Index_int_int.f
  rw [show slices_Index_int_int.l0 K s 0 (s.length : Int) 0 = some r from e1]
  rw [List.drop_zero] at e2
  simp only [Option.bind_some]
  rw [← e2]
def good (s : List Int) : Prop := ∀ x ∈ s, 1 ≤ x ∧ x ≤ 1048576
theorem good_of (s : List Int) (h1 : ¬ s.any bad = true) (h2 : ¬ s.any isz = true) : good s := by
  intro x hx
  have a1 : ¬ bad x = true := fun h => h1 (List.any_eq_true.2 ⟨x, hx, h⟩)
  have a2 : ¬ isz x = true := fun h => h2 (List.any_eq_true.2 ⟨x, hx, h⟩)
  unfold bad at a1; unfold isz at a2
  simp only [decide_eq_true_eq] at a1 a2
  omega
theorem P_pos : ∀ (s : List Int), good s → 1 ≤ P s
  | [], _ => by unfold P; omega
  | x :: r, h => by
    have h1 := h x (by simp)
    have h2 := P_pos r (fun y hy => h y (by simp [hy]))
    unfold P
    have := Int.mul_le_mul h1.1 h2 (by omega) (by omega)
    omega
theorem good_drop {s : List Int} (h : good s) (m : Nat) : good (s.drop m) := fun x hx => h x (List.mem_of_mem_drop hx)
theorem mul_small {a x : Int} (h1 : 1 ≤ a) (h2 : a ≤ 1048576) (h3 : 1 ≤ x) (h4 : x ≤ 1048576) : 1 ≤ a * x ∧ a * x ≤ 1099511627776 := by
  have := Int.mul_le_mul h1 h3 (by omega) (by omega)
  have := Int.mul_le_mul h2 h4 (by omega) (by omega)
  omega
theorem count_loop (s : List Int) (hs : good s) (hl : s.length ≤ 1000) (d : Nat) : ∀ (K m : Nat) (acc : Int), m ≤ s.length → s.length - m = d → d + 1 ≤ K → 1 ≤ acc → acc ≤ 1048576 →
    shape_Count.l0 K acc s (s.length : Int) (m : Int) = some (if acc * P (s.drop m) ≤ 1048576 then (acc * P (s.drop m), true) else (0, false)) := by
  induction d with
  | zero =>
    intro K m acc h1 h2 h3 h4 h5
    obtain ⟨K, rfl⟩ : ∃ q, K = q + 1 := ⟨K - 1, by omega⟩
    simp only [shape_Count.l0]
    rw [if_neg (by omega), List.drop_eq_nil_of_le (by omega), show acc * P [] = acc from by unfold P; omega, if_pos h5]
  | succ d ih =>
    intro K m acc h1 h2 h3 h4 h5
    obtain ⟨K, rfl⟩ : ∃ q, K = q + 1 := ⟨K - 1, by omega⟩
    have c : m < s.length := by omega
    have hx := hs _ (List.getElem_mem c)
    have hm := mul_small h4 h5 hx.1 hx.2
    have hp := P_pos (s.drop (m + 1)) (good_drop hs _)
    simp only [shape_Count.l0]
    rw [if_pos (by omega), if_pos (by omega), if_pos (by omega), rd_at s m c, w64 (n := acc * s[m]) (by omega) (by omega), one_f, List.drop_eq_getElem_cons c, up64 m (by omega), show acc * P (s[m] :: s.drop (m + 1)) = acc * s[m] * P (s.drop (m + 1)) by rw [P, Int.mul_assoc]]
    simp only [Option.bind_some]
    by_cases g : acc * s[m] ≤ 1048576
    · rw [if_neg (by unfold bad; simp only [decide_eq_true_eq]; omega), ih K (m + 1) _ (by omega) (by omega) (by omega) hm.1 g]
    · rw [if_pos (by unfold bad; simp only [decide_eq_true_eq]; omega)]
      have := Int.mul_le_mul (show acc * s[m] ≤ acc * s[m] by omega) hp (by omega) (by omega)
      rw [if_neg (by omega)]
theorem count_eq (s : List Int) (K : Nat) (hK : 40 ≤ K) : shape_Count.f K s = some (cnt s) := by
  unfold shape_Count.f cnt
  obtain ⟨K, rfl⟩ : ∃ q, K = q + 1 := ⟨K - 1, by omega⟩
  by_cases c : s.length > 16
  · rw [if_pos (by omega), if_pos c]
    simp only [shape_Count.j0]
    rw [if_pos trivial]
  · rw [if_neg (by omega), if_neg c, cfunc_eq s (by omega) _ (by omega)]
    simp only [Option.bind_some, shape_Count.j0]
    unfold cnt2
    by_cases h1 : s.any bad = true
    · rw [if_pos h1, if_pos h1]
    · rw [if_neg h1, if_neg h1, cont_eq s (by omega) _ (by omega)]
      simp only [Option.bind_some]
      by_cases h2 : s.any isz = true
      · rw [if_pos h2, if_pos h2]
      · rw [if_neg h2, if_neg h2]
        have := count_loop s (good_of s h1 h2) (by omega) s.length K 0 1 (by omega) (by omega) (by omega) (by omega) (by omega)
        rw [List.drop_zero, Int.one_mul] at this
        exact this
theorem take_snoc {l : List Int} {m : Nat} (h : m < l.length) : l.take (m + 1) = l.take m ++ [l[m]] := by simp
theorem rcount_loop1 (s : List Int) (hs : good s) (hl : s.length ≤ 1000) (d : Nat) : ∀ (K m : Nat) (acc : Int), m ≤ s.length → s.length - m = d → d + 1 ≤ K → 1 ≤ acc → acc ≤ 1048576 →
    deckleref09_Count.l1 K s acc (m : Int) = some (if acc * P (s.drop m) ≤ 1048576 then (acc * P (s.drop m), true) else (0, false)) := by
  induction d with
  | zero =>
    intro K m acc h1 h2 h3 h4 h5
    obtain ⟨K, rfl⟩ : ∃ q, K = q + 1 := ⟨K - 1, by omega⟩
    simp only [deckleref09_Count.l1]
    rw [if_neg (by omega), List.drop_eq_nil_of_le (by omega), show acc * P [] = acc from by unfold P; omega, if_pos h5]
  | succ d ih =>
    intro K m acc h1 h2 h3 h4 h5
    obtain ⟨K, rfl⟩ : ∃ q, K = q + 1 := ⟨K - 1, by omega⟩
    have c : m < s.length := by omega
    have hx := hs _ (List.getElem_mem c)
    have hm := mul_small h4 h5 hx.1 hx.2
    have hp := P_pos (s.drop (m + 1)) (good_drop hs _)
    simp only [deckleref09_Count.l1]
    rw [if_pos (by omega), if_pos (by omega), rd_at s m c, w64 (n := acc * s[m]) (by omega) (by omega), List.drop_eq_getElem_cons c, up64 m (by omega), show acc * P (s[m] :: s.drop (m + 1)) = acc * s[m] * P (s.drop (m + 1)) by rw [P, Int.mul_assoc]]
    by_cases g : acc * s[m] ≤ 1048576
    · rw [if_neg (by omega), ih K (m + 1) _ (by omega) (by omega) (by omega) hm.1 g]
    · rw [if_pos (by omega)]
      have := Int.mul_le_mul (show acc * s[m] ≤ acc * s[m] by omega) hp (by omega) (by omega)
      rw [if_neg (by omega)]
end Sh
theorem cnt_ev (s : List Int) : Ev (fun k => shape_Count.f k s) (Sh.cnt s) := ⟨40, fun k hk => Sh.count_eq s k hk⟩
def In64 (v : Int) : Prop := -9223372036854775808 ≤ v ∧ v ≤ 9223372036854775807
theorem andNot1 (v : Int) (h : In64 v) : ((Go.bits .andNot .i64 v 1) == 0) = (v == 0 || v == 1) := by
  obtain ⟨h1, h2⟩ := h
  have e : Go.bits .andNot .i64 v 1 = IntKind.i64.wrap (((v % 18446744073709551616).toNat / 2 * 2 : Nat) : Int) := by
    show IntKind.i64.wrap ((BitVec.ofInt 64 v &&& ~~~BitVec.ofInt 64 ((1 : Nat) : Int)).toNat : Int) = _
    rw [BitVec.toNat_and, BitVec.toNat_not, ofInt_u64 1 (by omega), BitVec.toNat_ofInt]
    have e1 : 2 ^ 64 - 1 - 1 = 18446744073709551614 := by decide
    rw [e1, nat_hi64_1, Nat.mod_eq_of_lt (by omega)]
    rfl
  rw [e]
  have e2 : IntKind.i64.wrap (((v % 18446744073709551616).toNat / 2 * 2 : Nat) : Int) = wrap64 (((v % 18446744073709551616).toNat / 2 * 2 : Nat) : Int) := i64_w _
  rw [e2]
  by_cases g : v = 0 ∨ v = 1
  · have z : wrap64 (((v % 18446744073709551616).toNat / 2 * 2 : Nat) : Int) = 0 := by
      unfold wrap64
      rcases g with rfl | rfl <;> omega
    rw [z]
    rcases g with rfl | rfl <;> rfl
  · have z : wrap64 (((v % 18446744073709551616).toNat / 2 * 2 : Nat) : Int) ≠ 0 := by
      unfold wrap64
      omega
    rw [beq_eq_false_iff_ne.mpr z, beq_eq_false_iff_ne.mpr (fun h => g (.inl h)), beq_eq_false_iff_ne.mpr (fun h => g (.inr h))]
    rfl
def okI (a v : Int) : Bool := if a = 1 then (v == 0 || v == 1) else if a = 2 then true else if a = 3 then decide (0 ≤ v ∧ v ≤ 1114111 ∧ ¬ (55296 ≤ v ∧ v ≤ 57343)) else false
theorem valid_val (a : Int) : Ev (fun k => utf8_ValidRune.f k a) (decide (0 ≤ a ∧ a ≤ 1114111 ∧ ¬ (55296 ≤ a ∧ a ≤ 57343))) := by
  by_cases h : 0 ≤ a
  · simp only [utf8_ValidRune.f, if_pos h]
    refine Ev.succ ?_
    by_cases h2 : a < 55296
    · rw [decide_eq_true (show 0 ≤ a ∧ a ≤ 1114111 ∧ ¬ (55296 ≤ a ∧ a ≤ 57343) by omega)]
      simp only [utf8_ValidRune.j0, decide_eq_true h2, if_true]
      exact Ev.const _
    · simp only [utf8_ValidRune.j0, decide_eq_false h2, Bool.false_eq_true, if_false]
      by_cases h3 : 57343 < a
      · by_cases h4 : a ≤ 1114111
        · rw [decide_eq_true (show 0 ≤ a ∧ a ≤ 1114111 ∧ ¬ (55296 ≤ a ∧ a ≤ 57343) by omega)]
          simp only [if_pos h3, if_pos h4]; exact Ev.const _
        · rw [decide_eq_false (show ¬ (0 ≤ a ∧ a ≤ 1114111 ∧ ¬ (55296 ≤ a ∧ a ≤ 57343)) by omega)]
          simp only [if_pos h3, if_neg h4]; exact Ev.const _
      · rw [decide_eq_false (show ¬ (0 ≤ a ∧ a ≤ 1114111 ∧ ¬ (55296 ≤ a ∧ a ≤ 57343)) by omega)]
        simp only [if_neg h3]; exact Ev.const _
  · simp only [utf8_ValidRune.f, if_neg h]
    refine Ev.succ ?_
    rw [decide_eq_false (show ¬ (0 ≤ a ∧ a ≤ 1114111 ∧ ¬ (55296 ≤ a ∧ a ≤ 57343)) by omega)]
    simp only [utf8_ValidRune.j0, Bool.false_eq_true, if_false, if_neg (show ¬ 57343 < a by omega)]
    exact Ev.const _
theorem fits_val (a v : Int) (hv : In64 v) : Ev (fun k => array_fits.f k a v) (okI a v) := by
  unfold okI
  by_cases h1 : a = 1
  · simp only [array_fits.f, if_pos h1, andNot1 v hv]; exact Ev.const _
  · by_cases h2 : a = 2
    · simp only [array_fits.f, if_neg h1, if_pos h2]; exact Ev.const _
    · by_cases h3 : a = 3
      · by_cases h4 : v = wrap64 (wrap32 v)
        · have e : wrap32 v = v := by
            have : wrap64 (wrap32 v) = wrap32 v := by unfold wrap64 wrap32; omega
            omega
          simp only [array_fits.f, if_neg h1, if_neg h2, if_pos h3, if_pos h4]
          simp only [e]
          exact Ev.bind (valid_val v) (Ev.const _)
        · simp only [array_fits.f, if_neg h1, if_neg h2, if_pos h3, if_neg h4]
          rw [decide_eq_false (show ¬ (0 ≤ v ∧ v ≤ 1114111 ∧ ¬ (55296 ≤ v ∧ v ≤ 57343)) by
            intro g
            apply h4
            unfold wrap64 wrap32; omega)]
          exact Ev.const _
      · simp only [array_fits.f, if_neg h1, if_neg h2, if_neg h3]; exact Ev.const _
theorem wrongs_val (l : List Int) (a : Int) (hl : l.length ≤ 9223372036854775807) (hr : ∀ v ∈ l, In64 v) : ∀ d i, i ≤ l.length → l.length - i = d → Ev (fun k => array_wrongs_int.l0 k a l (l.length : Int) (i : Int)) (!(l.drop i).all (okI a)) := by
  intro d
  induction d with
  | zero =>
    intro i h1 h2
    rw [List.drop_eq_nil_of_le (by omega)]
    refine Ev.succ ?_
    simp only [array_wrongs_int.l0, if_neg (show ¬ ((i : Int) < (l.length : Int)) by omega)]
    exact Ev.const _
  | succ d ih =>
    intro i h1 h2
    have hi : i < l.length := by omega
    have ht := fits_val a l[i] (hr _ (List.getElem_mem _))
    have hv := ih (i + 1) (by omega) (by omega)
    rw [List.drop_eq_getElem_cons hi, List.all_cons]
    refine Ev.succ ?_
    simp only [array_wrongs_int.l0, if_pos (show ((i : Int) < (l.length : Int)) by omega), if_pos (show (0 : Int) ≤ (i : Int) by omega), array_items_1.f, ix hi hl, rd_at l i hi]
    refine Ev.bind (Ev.bind ht (Ev.const _)) ?_
    cases okI a l[i] with
    | true => exact hv
    | false => exact Ev.const _
noncomputable def dr (y : S40) : Bool := open Classical in if h : ∃ v, Ev (fun k => decimal_Right.f k y.f0 y.f1) v then h.choose else false
theorem dr_ev (y : S40) (h : OkD y) : Ev (fun k => decimal_Right.f k y.f0 y.f1) (dr y) := by
  have e := decright_ev y h
  unfold dr
  rw [dif_pos e]
  exact e.choose_spec
theorem norm_same : ∀ (k : Nat) (x e : Int), deckleref06_Norm.l0 k x e = decimal_Norm.l0 k x e := by
  intro k
  induction k with
  | zero => intro x e; rfl
  | succ k ih => intro x e; simp only [deckleref06_Norm.l0, decimal_Norm.l0, ih]
theorem dright_same (k : Nat) (x e : Int) : deckleref06_Right.f k x e = decimal_Right.f k x e := by
  simp only [deckleref06_Right.f, decimal_Right.f, deckleref06_Norm.f, decimal_Norm.f, norm_same]
theorem rdD_at (b : List S40) (m : Nat) (h : m < b.length) : rd_T40 b (m : Int) = b[m] := by
  unfold rd_T40
  rw [List.getD_eq_getElem?_getD, Int.toNat_natCast, List.getElem?_eq_getElem h]; rfl
theorem decs_val (l : List S40) (ok : ∀ y ∈ l, OkD y) (hl : l.length ≤ 9223372036854775807) : ∀ d i, i ≤ l.length → l.length - i = d → Ev (fun k => api_Dec_91.l0 k l (l.length : Int) (i : Int)) (!(l.drop i).all dr) := by
  intro d
  induction d with
  | zero =>
    intro i h1 h2
    rw [List.drop_eq_nil_of_le (by omega)]
    refine Ev.succ ?_
    simp only [api_Dec_91.l0, if_neg (show ¬ ((i : Int) < (l.length : Int)) by omega)]
    exact Ev.const _
  | succ d ih =>
    intro i h1 h2
    have hi : i < l.length := by omega
    have ht := dr_ev l[i] (ok _ (List.getElem_mem _))
    have hv := ih (i + 1) (by omega) (by omega)
    rw [List.drop_eq_getElem_cons hi, List.all_cons]
    refine Ev.succ ?_
    simp only [api_Dec_91.l0, if_pos (show ((i : Int) < (l.length : Int)) by omega), if_pos (show (0 : Int) ≤ (i : Int) by omega), ix hi hl, rdD_at l i hi]
    refine Ev.bind ht ?_
    cases dr l[i] with
    | true => exact hv
    | false => exact Ev.const _
noncomputable def gd (x5 x6 a : Int) (c : List Int) (e : List S40) : Bool := if (c.length : Int) = x5 then (if (e.length : Int) = x6 then (c.all (okI a) && e.all dr) else false) else false
theorem items1_val (x3 x5 x6 a a' : Int) (b c : List Int) (e : List S40) (ok : ∀ y ∈ e, OkD y) (hr : ∀ v ∈ c, In64 v) (hc : c.length ≤ 9223372036854775807) (he : e.length ≤ 9223372036854775807) :
    Ev (fun k => array_items.j1 k x3 x5 x6 a a' b c e) (if gd x5 x6 a c e = true then x3 else -1) := by
  have ht := wrongs_val c a hc hr c.length 0 (by omega) (by omega)
  have hs := decs_val e ok he e.length 0 (by omega) (by omega)
  rw [List.drop_zero] at ht hs
  unfold gd
  refine Ev.succ ?_
  by_cases g1 : (c.length : Int) = x5
  · by_cases g2 : (e.length : Int) = x6
    · simp only [array_items.j1, if_pos g1, if_pos g2, array_wrongs_int.f, api_Dec_91.f]
      refine Ev.bind ht ?_
      cases c.all (okI a) with
      | false => exact Ev.const _
      | true =>
        refine Ev.bind hs ?_
        cases e.all dr with
        | false => exact Ev.const _
        | true => exact Ev.const _
    · simp only [array_items.j1, if_pos g1, if_neg g2]; exact Ev.const _
  · simp only [array_items.j1, if_neg g1]; exact Ev.const _
noncomputable def gdK (a x3 : Int) (c : List Int) (e : List S40) : Bool := if a = 1 ∨ a = 2 ∨ a = 3 then gd x3 0 a c e else if a = 4 then gd 0 x3 a c e else if a = 5 then gd 0 0 a c e else false
def Ok3 (n : S32) : Prop := Ok n ∧ (∀ v ∈ n.f2, In64 v) ∧ n.f2.length ≤ 9223372036854775807 ∧ n.f3.length ≤ 9223372036854775807
theorem items_val (n : S32) (ok : Ok3 n) : Ev (fun k => array_items.f k n.f0 n.f1 n.f2 n.f3) (if (Sh.cnt n.f1).2 = true then (if gdK n.f0 (Sh.cnt n.f1).1 n.f2 n.f3 = true then (Sh.cnt n.f1).1 else -1) else -1) := by
  have hc := cnt_ev n.f1
  revert hc
  generalize Sh.cnt n.f1 = x
  intro hc
  obtain ⟨ok1, ok2, ok3, ok4⟩ := ok
  simp only [array_items.f]
  refine Ev.bind hc ?_
  cases x.2 with
  | false => exact Ev.const _
  | true =>
    simp only [if_true]
    unfold gdK
    by_cases g1 : n.f0 = 1
    · simp only [if_pos g1, if_pos (show n.f0 = 1 ∨ n.f0 = 2 ∨ n.f0 = 3 from .inl g1), beq_iff_eq.mpr g1]
      exact Ev.succ (by simp only [array_items.j0, if_true]; exact items1_val _ _ _ _ _ _ _ _ ok1 ok2 (by omega) (by omega))
    · by_cases g2 : n.f0 = 2
      · simp only [if_neg g1, if_pos g2, if_pos (show n.f0 = 1 ∨ n.f0 = 2 ∨ n.f0 = 3 from .inr (.inl g2)), beq_iff_eq.mpr g2]
        exact Ev.succ (by simp only [array_items.j0, if_true]; exact items1_val _ _ _ _ _ _ _ _ ok1 ok2 (by omega) (by omega))
      · by_cases g3 : n.f0 = 3
        · simp only [if_neg g1, if_neg g2, if_pos (show n.f0 = 1 ∨ n.f0 = 2 ∨ n.f0 = 3 from .inr (.inr g3)), beq_iff_eq.mpr g3]
          exact Ev.succ (by simp only [array_items.j0, if_true]; exact items1_val _ _ _ _ _ _ _ _ ok1 ok2 (by omega) (by omega))
        · simp only [if_neg g1, if_neg g2, if_neg (show ¬ (n.f0 = 1 ∨ n.f0 = 2 ∨ n.f0 = 3) by omega), beq_eq_false_iff_ne.mpr g3]
          refine Ev.succ ?_
          simp only [array_items.j0, Bool.false_eq_true, if_false]
          by_cases g4 : n.f0 = 4
          · simp only [if_pos g4]; exact items1_val _ _ _ _ _ _ _ _ ok1 ok2 (by omega) (by omega)
          · by_cases g5 : n.f0 = 5
            · simp only [if_neg g4, if_pos g5]; exact items1_val _ _ _ _ _ _ _ _ ok1 ok2 (by omega) (by omega)
            · simp only [if_neg g4, if_neg g5]; exact Ev.const _
theorem itm_val3 (n : S32) (ok : Ok3 n) : itm n = if (Sh.cnt n.f1).2 = true then (if gdK n.f0 (Sh.cnt n.f1).1 n.f2 n.f3 = true then (Sh.cnt n.f1).1 else -1) else -1 :=
  Ev.uniq (itm_said n ok.1).1 (items_val n ok)
def Fit2 (n : S32) : Prop := n.f1.length ≤ 1100000 ∧ n.f2.length ≤ 1100000 ∧ n.f3.length ≤ 1100000
noncomputable def q {α : Type} (a b : α) : Bool := @decide (a = b) (Classical.propDecidable _)
theorem q_t {α : Type} {a b : α} (h : a = b) : q a b = true := by unfold q; exact @decide_eq_true _ (Classical.propDecidable _) h
theorem q_f {α : Type} {a b : α} (h : a ≠ b) : q a b = false := by unfold q; exact @decide_eq_false _ (Classical.propDecidable _) h
theorem q_nil {α : Type} {a b : List α} {i : Nat} (h : a.length ≤ i) (h2 : b.length ≤ i) : q (a.drop i) (b.drop i) = true := q_t (by rw [List.drop_eq_nil_of_le h, List.drop_eq_nil_of_le h2])
theorem q_eq {α : Type} {a b : List α} {i : Nat} (ha : i < a.length) (hb : i < b.length) (h : a[i] = b[i]) : q (a.drop i) (b.drop i) = q (a.drop (i + 1)) (b.drop (i + 1)) := by
  by_cases g : a.drop (i + 1) = b.drop (i + 1)
  · rw [q_t g, q_t (by rw [List.drop_eq_getElem_cons ha, List.drop_eq_getElem_cons hb, h, g])]
  · rw [q_f g, q_f (fun e => g (by rw [List.drop_eq_getElem_cons ha, List.drop_eq_getElem_cons hb] at e; injection e))]
theorem q_ne {α : Type} {a b : List α} {i : Nat} (ha : i < a.length) (hb : i < b.length) (h : a[i] ≠ b[i]) : q (a.drop i) (b.drop i) = false :=
  q_f (fun e => h (by rw [List.drop_eq_getElem_cons ha, List.drop_eq_getElem_cons hb] at e; injection e))
theorem eqi_loop (a b : List Int) (he : a.length = b.length) (hl : a.length ≤ 9223372036854775807) : ∀ d i, i ≤ a.length → a.length - i = d → Ev (fun k => slices_Equal_int_int.l0 k a b (a.length : Int) (i : Int)) (q (a.drop i) (b.drop i)) := by
  intro d
  induction d with
  | zero =>
    intro i h1 h2
    rw [q_nil (by omega) (by omega)]
    refine Ev.succ ?_
    simp only [slices_Equal_int_int.l0, if_neg (show ¬ ((i : Int) < (a.length : Int)) by omega)]
    exact Ev.const _
  | succ d ih =>
    intro i h1 h2
    have hi : i < a.length := by omega
    have hb : i < b.length := by omega
    have hv := ih (i + 1) (by omega) (by omega)
    refine Ev.succ ?_
    simp only [slices_Equal_int_int.l0, if_pos (show ((i : Int) < (a.length : Int)) by omega), if_pos (show ((i : Int) < (b.length : Int)) by omega), if_pos (show (0 : Int) ≤ (i : Int) by omega), ix hi hl, rd_at a i hi, rd_at b i hb]
    by_cases g : a[i] = b[i]
    · rw [q_eq hi hb g]; simp only [if_pos g]; exact hv
    · rw [q_ne hi hb g]; simp only [if_neg g]; exact Ev.const _
theorem eqi_ev (a b : List Int) (hl : a.length ≤ 9223372036854775807) : Ev (fun k => slices_Equal_int_int.f k a b) (q a b) := by
  by_cases h : (a.length : Int) = (b.length : Int)
  · simp only [slices_Equal_int_int.f, if_pos h]
    have := eqi_loop a b (by omega) hl a.length 0 (by omega) (by omega)
    simp only [List.drop_zero] at this
    exact this
  · simp only [slices_Equal_int_int.f, if_neg h]
    rw [q_f (fun e => h (by rw [e]))]
    exact Ev.const _
theorem dec_ne (x y : S40) : (!(x.f0 == y.f0) || !(x.f1 == y.f1)) = !(q x y) := by
  by_cases h : x = y
  · rw [q_t h, h]; simp
  · rw [q_f h]
    obtain ⟨a, b⟩ := x
    obtain ⟨c, d⟩ := y
    by_cases e : a = c
    · by_cases f : b = d
      · exact absurd (by rw [e, f]) h
      · simp only [beq_eq_false_iff_ne.mpr f, Bool.not_false, Bool.or_true]
    · simp only [beq_eq_false_iff_ne.mpr e, Bool.not_false, Bool.true_or]
theorem eqd_loop (a b : List S40) (he : a.length = b.length) (hl : a.length ≤ 9223372036854775807) : ∀ d i, i ≤ a.length → a.length - i = d → Ev (fun k => api_Dec_37.l0 k a b (a.length : Int) (i : Int)) (q (a.drop i) (b.drop i)) := by
  intro d
  induction d with
  | zero =>
    intro i h1 h2
    rw [q_nil (by omega) (by omega)]
    refine Ev.succ ?_
    simp only [api_Dec_37.l0, if_neg (show ¬ ((i : Int) < (a.length : Int)) by omega)]
    exact Ev.const _
  | succ d ih =>
    intro i h1 h2
    have hi : i < a.length := by omega
    have hb : i < b.length := by omega
    have hv := ih (i + 1) (by omega) (by omega)
    refine Ev.succ ?_
    simp only [api_Dec_37.l0, if_pos (show ((i : Int) < (a.length : Int)) by omega), if_pos (show ((i : Int) < (b.length : Int)) by omega), if_pos (show (0 : Int) ≤ (i : Int) by omega), ix hi hl, rdD_at a i hi, rdD_at b i hb, dec_ne]
    by_cases g : a[i] = b[i]
    · rw [q_eq hi hb g]; simp only [q_t g, Bool.not_true, Bool.false_eq_true, if_false]; exact hv
    · rw [q_ne hi hb g]; simp only [q_f g, Bool.not_false, if_true]; exact Ev.const _
theorem eqd_ev (a b : List S40) (hl : a.length ≤ 9223372036854775807) : Ev (fun k => api_Dec_37.f k a b) (q a b) := by
  by_cases h : (a.length : Int) = (b.length : Int)
  · simp only [api_Dec_37.f, if_pos h]
    have := eqd_loop a b (by omega) hl a.length 0 (by omega) (by omega)
    simp only [List.drop_zero] at this
    exact this
  · simp only [api_Dec_37.f, if_neg h]
    rw [q_f (fun e => h (by rw [e]))]
    exact Ev.const _
theorem node_q (x y : S32) : q x y = (q x.f0 y.f0 && (q x.f1 y.f1 && (q x.f2 y.f2 && q x.f3 y.f3))) := by
  obtain ⟨a, b, c, d⟩ := x
  obtain ⟨a', b', c', d'⟩ := y
  by_cases h0 : a = a'
  · by_cases h1 : b = b'
    · by_cases h2 : c = c'
      · by_cases h3 : d = d'
        · rw [q_t (by rw [h0, h1, h2, h3])]; simp only [q_t h0, q_t h1, q_t h2, q_t h3]; rfl
        · rw [q_f (fun e => h3 (by injection e))]; simp only [q_f h3, Bool.and_false]
      · rw [q_f (fun e => h2 (by injection e))]; simp only [q_f h2, Bool.and_false, Bool.false_and]
    · rw [q_f (fun e => h1 (by injection e))]; simp only [q_f h1, Bool.and_false, Bool.false_and]
  · rw [q_f (fun e => h0 (by injection e))]; simp only [q_f h0, Bool.false_and]
theorem same1_ev (x y : S32) (h : Fit2 x) : Ev (fun k => array_Same_1.f k x.f0 x.f1 x.f2 x.f3 y.f0 y.f1 y.f2 y.f3) (q x y) := by
  obtain ⟨h1, h2, h3⟩ := h
  rw [node_q]
  by_cases e : x.f0 = y.f0
  · simp only [array_Same_1.f, if_pos e, q_t e, Bool.true_and]
    refine Ev.bind (eqi_ev x.f1 y.f1 (by omega)) ?_
    cases q x.f1 y.f1 with
    | false => exact Ev.const _
    | true =>
      refine Ev.bind (eqi_ev x.f2 y.f2 (by omega)) ?_
      cases q x.f2 y.f2 with
      | false => exact Ev.const _
      | true => exact Ev.bind (eqd_ev x.f3 y.f3 (by omega)) (Ev.const _)
  · simp only [array_Same_1.f, if_neg e, q_f e, Bool.false_and]; exact Ev.const _
theorem eqn_loop (a b : List S32) (he : a.length = b.length) (hl : a.length ≤ 100) (hf : ∀ n ∈ a, Fit2 n) : ∀ d i, i ≤ a.length → a.length - i = d → Ev (fun k => api_Node_34.l0 k b a (a.length : Int) (i : Int)) (q (a.drop i) (b.drop i)) := by
  intro d
  induction d with
  | zero =>
    intro i h1 h2
    rw [q_nil (by omega) (by omega)]
    refine Ev.succ ?_
    simp only [api_Node_34.l0, if_neg (show ¬ ((i : Int) < (a.length : Int)) by omega)]
    exact Ev.const _
  | succ d ih =>
    intro i h1 h2
    have hi : i < a.length := by omega
    have hb : i < b.length := by omega
    have hv := ih (i + 1) (by omega) (by omega)
    refine Ev.succ ?_
    simp only [api_Node_34.l0, if_pos (show ((i : Int) < (a.length : Int)) by omega), if_pos (show ((i : Int) < (b.length : Int)) by omega), if_pos (show (0 : Int) ≤ (i : Int) by omega), ix hi (by omega), rdT_at a i hi, rdT_at b i hb]
    refine Ev.bind (same1_ev a[i] b[i] (hf _ (List.getElem_mem _))) ?_
    by_cases g : a[i] = b[i]
    · rw [q_eq hi hb g]; simp only [q_t g, if_true]; exact hv
    · rw [q_ne hi hb g]; simp only [q_f g, Bool.false_eq_true, if_false]; exact Ev.const _
theorem same_q (a b : List S32) (hl : a.length ≤ 100) (hf : ∀ n ∈ a, Fit2 n) : Ev (fun k => array_Same.f k a b) (q a b) := by
  simp only [array_Same.f]
  refine Ev.bind ?_ (Ev.const _)
  by_cases h : (a.length : Int) = (b.length : Int)
  · simp only [api_Node_34.f, if_pos h]
    have := eqn_loop a b (by omega) hl hf a.length 0 (by omega) (by omega)
    simp only [List.drop_zero] at this
    exact this
  · simp only [api_Node_34.f, if_neg h]
    rw [q_f (fun e => h (by rw [e]))]
    exact Ev.const _
def OkE (y : S40) : Prop := In64 y.f0 ∧ In64 y.f1
theorem OkE.d {y : S40} (h : OkE y) : OkD y := h.2
theorem ten_le {x : Int} {e : Nat} (h0 : x ≠ 0) (h : In64 (x * 10 ^ e)) : e ≤ 18 := by
  obtain ⟨h1, h2⟩ := h
  refine Nat.not_lt.1 fun hlt => ?_
  have h3 : (10 : Nat) ^ 19 ≤ 10 ^ e := Nat.pow_le_pow_right (by decide) hlt
  have h4 : (x * 10 ^ e).natAbs = x.natAbs * 10 ^ e := by rw [Int.natAbs_mul, Int.natAbs_pow]; rfl
  have h5 : 10 ^ e ≤ x.natAbs * 10 ^ e := Nat.le_mul_of_pos_left _ (by omega)
  have h6 : (10 : Nat) ^ 19 = 10000000000000000000 := by decide
  generalize x * 10 ^ e = z at h1 h2 h4
  generalize (10 : Nat) ^ e = q at h3 h5 h4
  omega
theorem In64.mul_down {m : Int} {i j : Nat} (hij : i ≤ j) (h : In64 (m * 10 ^ j)) : In64 (m * 10 ^ i) := by
  obtain ⟨h1, h2⟩ := h
  have h3 : (10 : Int) ^ i ≤ 10 ^ j := by
    have := Nat.pow_le_pow_right (show 0 < 10 by decide) hij
    exact_mod_cast this
  have h4 : (0 : Int) < 10 ^ i := by
    have := Nat.pow_pos (show 0 < 10 by decide) (n := i)
    exact_mod_cast this
  unfold In64
  by_cases c : 0 ≤ m
  · have h5 := Int.mul_le_mul_of_nonneg_left h3 c
    have h6 := Int.mul_nonneg c (Int.le_of_lt h4)
    omega
  · have h5 := Int.mul_le_mul_of_nonneg_left h3 (show 0 ≤ -m by omega)
    have h6 := Int.mul_nonneg (show 0 ≤ -m by omega) (Int.le_of_lt h4)
    rw [Int.neg_mul, Int.neg_mul] at h5
    rw [Int.neg_mul] at h6
    omega
theorem norm_of : ∀ (d : Nat) (x : Int) (e : Nat), x ≠ 0 → x.natAbs ≤ d → In64 (x * 10 ^ e) → ∃ (m : Int) (j : Nat), Ev (fun k => decimal_Norm.l0 k x (e : Int)) (m, (j : Int), true) ∧ m ≠ 0 ∧ Int.tmod m 10 ≠ 0 ∧ m * 10 ^ j = x * 10 ^ e ∧ j ≤ 18 := by
  intro d
  induction d with
  | zero => intro x e h0 h1; exact absurd (show x = 0 by omega) h0
  | succ d ih =>
    intro x e h0 h1 h2
    have he := ten_le h0 h2
    by_cases h : Int.tmod x 10 = 0
    · have hx : x = Int.tdiv x 10 * 10 := by have := Int.mul_tdiv_add_tmod x 10; omega
      have hx64 : In64 (x * 10 ^ 0) := In64.mul_down (Nat.zero_le e) h2
      rw [Int.pow_zero, Int.mul_one] at hx64
      obtain ⟨b1, b2⟩ := hx64
      have hp : Int.tdiv x 10 * 10 ^ (e + 1) = x * 10 ^ e := by
        rw [Int.pow_succ, Int.mul_comm (10 ^ e) 10, ← Int.mul_assoc, ← hx]
      obtain ⟨m, j, q1, q2, q3, q4, q5⟩ := ih (Int.tdiv x 10) (e + 1) (by omega) (by omega) (by rw [hp]; exact h2)
      refine ⟨m, j, Ev.succ ?_, q2, q3, q4.trans hp, q5⟩
      simp only [decimal_Norm.l0, if_pos h, if_pos (show (e : Int) ≤ 32767 by omega)]
      rw [w64 (n := Int.tdiv x 10) (by omega) (by omega), w64 (n := (e : Int) + 1) (by omega) (by omega)]
      exact q1
    · refine ⟨x, e, Ev.succ ?_, h0, h, rfl, he⟩
      simp only [decimal_Norm.l0, if_neg h, if_neg (show ¬ (e : Int) < -32768 by omega), if_neg (show ¬ (e : Int) > 32767 by omega)]
      exact Ev.const _
def OfI (v : Int) (y : S40) : Prop := ∃ j : Nat, y.f1 = (j : Int) ∧ j ≤ 18 ∧ y.f0 * 10 ^ j = v ∧ (v = 0 → y.f0 = 0 ∧ j = 0) ∧ (v ≠ 0 → y.f0 ≠ 0 ∧ Int.tmod y.f0 10 ≠ 0)
theorem of_some (v : Int) (h : In64 v) : ∃ y : S40, Ev (fun k => decimal_Of.f k v) (y.f0, y.f1) ∧ OfI v y := by
  by_cases h0 : v = 0
  · refine ⟨⟨0, 0⟩, ?_, 0, rfl, by omega, by rw [h0]; rfl, fun _ => ⟨rfl, rfl⟩, fun g => absurd h0 g⟩
    simp only [decimal_Of.f, decimal_Norm.f, if_pos h0]
    exact Ev.bind (Ev.const _) (Ev.const _)
  · obtain ⟨m, j, q1, q2, q3, q4, q5⟩ := norm_of v.natAbs v 0 h0 (Nat.le_refl _) (by rw [Int.pow_zero, Int.mul_one]; exact h)
    rw [Int.pow_zero, Int.mul_one] at q4
    refine ⟨⟨m, j⟩, ?_, j, rfl, q5, q4, fun g => absurd g h0, fun _ => ⟨q2, q3⟩⟩
    simp only [decimal_Of.f, decimal_Norm.f, if_neg h0]
    exact Ev.bind q1 (Ev.const _)
noncomputable def ofD (v : Int) : S40 := open Classical in if h : ∃ y : S40, Ev (fun k => decimal_Of.f k v) (y.f0, y.f1) ∧ OfI v y then h.choose else ⟨0, 0⟩
theorem ofD_ev (v : Int) (h : In64 v) : Ev (fun k => decimal_Of.f k v) ((ofD v).f0, (ofD v).f1) ∧ OfI v (ofD v) := by
  have e := of_some v h
  unfold ofD
  rw [dif_pos e]
  exact e.choose_spec
theorem OfI.ok {v : Int} {y : S40} (h : OfI v y) (hv : In64 v) : OkE y := by
  obtain ⟨j, e1, e2, e3, e4, e5⟩ := h
  refine ⟨?_, by unfold In64; omega⟩
  have := In64.mul_down (Nat.zero_le j) (m := y.f0) (by rw [e3]; exact hv)
  rw [Int.pow_zero, Int.mul_one] at this
  exact this
theorem OfI.right {v : Int} {y : S40} (h : OfI v y) : Ev (fun k => decimal_Right.f k y.f0 y.f1) true := by
  obtain ⟨j, e1, e2, e3, e4, e5⟩ := h
  simp only [decimal_Right.f, decimal_Norm.f]
  by_cases h0 : v = 0
  · obtain ⟨g1, g2⟩ := e4 h0
    simp only [if_pos g1]
    refine Ev.bind (Ev.const _) ?_
    rw [e1, g1, g2]
    exact Ev.const _
  · obtain ⟨g1, g2⟩ := e5 h0
    simp only [if_neg g1]
    refine Ev.bind (u := (y.f0, y.f1, true)) (Ev.succ ?_) ?_
    · simp only [decimal_Norm.l0, if_neg g2, if_neg (show ¬ y.f1 < -32768 by omega), if_neg (show ¬ y.f1 > 32767 by omega)]
      exact Ev.const _
    · simp only [if_true, BEq.rfl, Bool.and_self]
      exact Ev.const _
theorem whole_up {m : Int} {j : Nat} (hj : j ≤ 18) (h : In64 (m * 10 ^ j)) : ∀ d i, i ≤ j → j - i = d → Ev (fun k => decimal_Whole.l0 k (m * 10 ^ i) (j : Int) (i : Int)) (m * 10 ^ j, true) := by
  intro d
  induction d with
  | zero =>
    intro i h1 h2
    obtain rfl : i = j := by omega
    refine Ev.succ ?_
    simp only [decimal_Whole.l0, if_neg (Int.lt_irrefl _)]
    exact Ev.const _
  | succ d ih =>
    intro i h1 h2
    have e : m * 10 ^ i * 10 = m * 10 ^ (i + 1) := by rw [Int.pow_succ, Int.mul_assoc]
    have hb := In64.mul_down (show i + 1 ≤ j by omega) h
    have hc := In64.mul_down (show i ≤ j by omega) h
    obtain ⟨b1, b2⟩ := hb
    obtain ⟨c1, c2⟩ := hc
    have hw : wrap64 (m * 10 ^ (i + 1)) = m * 10 ^ (i + 1) := w64 b1 b2
    have ht : Int.tdiv (m * 10 ^ (i + 1)) 10 = m * 10 ^ i := by rw [← e]; exact Int.mul_tdiv_cancel _ (by decide)
    have hi : wrap64 ((i : Int) + 1) = ((i + 1 : Nat) : Int) := by rw [w64 (by omega) (by omega)]; omega
    refine Ev.succ ?_
    simp only [decimal_Whole.l0, if_pos (show (i : Int) < (j : Int) by omega), e, hw, ht, w64 c1 c2, if_true, hi]
    exact ih (i + 1) (by omega) (by omega)
theorem OfI.whole {v : Int} {y : S40} (h : OfI v y) (hv : In64 v) : Ev (fun k => decimal_Whole.f k y.f0 y.f1) (v, true) := by
  have hr := h.right
  obtain ⟨j, e1, e2, e3, e4, e5⟩ := h
  simp only [decimal_Whole.f]
  refine Ev.bind hr ?_
  simp only [if_true, if_neg (show ¬ y.f1 < 0 by omega), decide_eq_false (show ¬ y.f1 > 18 by omega)]
  refine Ev.succ ?_
  simp only [decimal_Whole.j0, Bool.false_eq_true, if_false]
  have := whole_up e2 (m := y.f0) (by rw [e3]; exact hv) j 0 (by omega) (by omega)
  rw [Int.pow_zero, Int.mul_one, e3] at this
  rw [e1]
  exact this
theorem In64.wrap (x : Int) : In64 (wrap64 x) := by unfold In64 wrap64; omega
theorem whole_some : ∀ (d : Nat) (n : Int) (j i : Nat), j ≤ 18 → i ≤ j → j - i = d → In64 n → ∃ v, Ev (fun k => decimal_Whole.l0 k n (j : Int) (i : Int)) v ∧ In64 v.1 := by
  intro d
  induction d with
  | zero =>
    intro n j i h0 h1 h2 hn
    obtain rfl : i = j := by omega
    refine ⟨(n, true), Ev.succ ?_, hn⟩
    simp only [decimal_Whole.l0, if_neg (Int.lt_irrefl _)]
    exact Ev.const _
  | succ d ih =>
    intro n j i h0 h1 h2 hn
    have hi : wrap64 ((i : Int) + 1) = ((i + 1 : Nat) : Int) := by rw [w64 (by omega) (by omega)]; omega
    by_cases g : wrap64 (Int.tdiv (wrap64 (n * 10)) 10) = n
    · obtain ⟨v, q1, q2⟩ := ih (wrap64 (n * 10)) j (i + 1) h0 (by omega) (by omega) (In64.wrap _)
      refine ⟨v, Ev.succ ?_, q2⟩
      simp only [decimal_Whole.l0, if_pos (show (i : Int) < (j : Int) by omega), if_pos g, hi]
      exact q1
    · refine ⟨(0, false), Ev.succ ?_, by unfold In64; omega⟩
      simp only [decimal_Whole.l0, if_pos (show (i : Int) < (j : Int) by omega), if_neg g]
      exact Ev.const _
theorem wh_total (y : S40) (h : OkE y) : ∃ v, Ev (fun k => decimal_Whole.f k y.f0 y.f1) v ∧ In64 v.1 := by
  have hr := dr_ev y h.d
  have hno : Ev (fun k => decimal_Whole.j0 k true y.f0 y.f1) (0, false) := Ev.succ (by simp only [decimal_Whole.j0, if_true]; exact Ev.const _)
  have h0 : In64 0 := by unfold In64; omega
  cases g : dr y with
  | false =>
    rw [g] at hr
    refine ⟨(0, false), ?_, h0⟩
    simp only [decimal_Whole.f]
    refine Ev.bind hr ?_
    simp only [Bool.false_eq_true, if_false]; exact hno
  | true =>
    rw [g] at hr
    by_cases c1 : y.f1 < 0
    · refine ⟨(0, false), ?_, h0⟩
      simp only [decimal_Whole.f]
      refine Ev.bind hr ?_
      simp only [if_true, if_pos c1]; exact hno
    · by_cases c2 : y.f1 > 18
      · refine ⟨(0, false), ?_, h0⟩
        simp only [decimal_Whole.f]
        refine Ev.bind hr ?_
        simp only [if_true, if_neg c1, decide_eq_true c2]; exact hno
      · obtain ⟨j, hj⟩ : ∃ j : Nat, y.f1 = (j : Int) := ⟨y.f1.toNat, by omega⟩
        obtain ⟨v, q1, q2⟩ := whole_some j y.f0 j 0 (by omega) (by omega) (by omega) h.1
        refine ⟨v, ?_, q2⟩
        simp only [decimal_Whole.f]
        refine Ev.bind hr ?_
        simp only [if_true, if_neg c1, decide_eq_false c2]
        refine Ev.succ ?_
        simp only [decimal_Whole.j0, Bool.false_eq_true, if_false]
        rw [hj]
        exact q1
noncomputable def wh (y : S40) : Int × Bool := open Classical in if h : ∃ v, Ev (fun k => decimal_Whole.f k y.f0 y.f1) v ∧ In64 v.1 then h.choose else (0, false)
theorem wh_ev (y : S40) (h : OkE y) : Ev (fun k => decimal_Whole.f k y.f0 y.f1) (wh y) ∧ In64 (wh y).1 := by
  have e := wh_total y h
  unfold wh
  rw [dif_pos e]
  exact e.choose_spec
theorem wh_of {v : Int} {y : S40} (h : OfI v y) (hv : In64 v) : wh y = (v, true) := Ev.uniq (wh_ev y (h.ok hv)).1 (h.whole hv)
theorem dr_of {v : Int} {y : S40} (h : OfI v y) (hv : In64 v) : dr y = true := Ev.uniq (dr_ev y (h.ok hv).d) h.right
theorem whole_loop (l : List S40) (ok : ∀ y ∈ l, OkE y) (hl : l.length ≤ 8000000000000) : ∀ d i (acc : List Int), i ≤ l.length → l.length - i = d → acc.length = i →
    Ev (fun k => tight_whole.l0 k acc l (l.length : Int) (i : Int)) (if (l.drop i).all (fun y => (wh y).2) = true then (acc ++ (l.drop i).map (fun y => (wh y).1), true) else ([], false)) := by
  intro d
  induction d with
  | zero =>
    intro i acc h1 h2 h3
    rw [List.drop_eq_nil_of_le (by omega)]
    refine Ev.succ ?_
    simp only [tight_whole.l0, if_neg (show ¬ ((i : Int) < (l.length : Int)) by omega), List.all_nil, if_true, List.map_nil, List.append_nil]
    exact Ev.const _
  | succ d ih =>
    intro i acc h1 h2 h3
    have hi : i < l.length := by omega
    have hw := wh_ev l[i] (ok _ (List.getElem_mem _))
    have hv := ih (i + 1) (acc ++ [(wh l[i]).1]) (by omega) (by omega) (by rw [List.length_append, List.length_singleton, h3])
    rw [List.drop_eq_getElem_cons hi, List.all_cons, List.map_cons]
    rw [List.append_assoc, List.singleton_append] at hv
    refine Ev.succ ?_
    simp only [tight_whole.l0, if_pos (show ((i : Int) < (l.length : Int)) by omega), if_pos (show (0 : Int) ≤ (i : Int) by omega), rdD_at l i hi, ix hi (show l.length ≤ 9223372036854775807 by omega)]
    refine Ev.bind hw.1 ?_
    cases g : (wh l[i]).2 with
    | false => simp only [Bool.false_eq_true, if_false, Bool.false_and]; exact Ev.const _
    | true =>
      simp only [if_true, Bool.true_and, if_pos (show acc.length < 17592186044416 by omega)]
      exact hv
theorem whole_ev (l : List S40) (ok : ∀ y ∈ l, OkE y) (hl : l.length ≤ 8000000000000) : Ev (fun k => tight_whole.f k l) (if l.all (fun y => (wh y).2) = true then (l.map (fun y => (wh y).1), true) else ([], false)) := by
  have := whole_loop l ok hl l.length 0 [] (by omega) (by omega) rfl
  rw [List.drop_zero, List.nil_append] at this
  simp only [tight_whole.f]
  exact this
theorem wrong_loop (l : List S40) (ok : ∀ y ∈ l, OkE y) (hl : l.length ≤ 8000000000000) : ∀ d i, i ≤ l.length → l.length - i = d → ∃ r : Int, Ev (fun k => api_Dec_66.l0 k l (l.length : Int) (i : Int)) r ∧ decide (r ≥ 0) = !(l.drop i).all dr := by
  intro d
  induction d with
  | zero =>
    intro i h1 h2
    rw [List.drop_eq_nil_of_le (by omega)]
    refine ⟨-1, Ev.succ ?_, rfl⟩
    simp only [api_Dec_66.l0, if_neg (show ¬ ((i : Int) < (l.length : Int)) by omega)]
    exact Ev.const _
  | succ d ih =>
    intro i h1 h2
    have hi : i < l.length := by omega
    have hd := dr_ev l[i] (ok _ (List.getElem_mem _)).d
    obtain ⟨r, q1, q2⟩ := ih (i + 1) (by omega) (by omega)
    rw [List.drop_eq_getElem_cons hi, List.all_cons]
    cases g : dr l[i] with
    | false =>
      rw [g] at hd
      refine ⟨(i : Int), Ev.succ ?_, by rw [Bool.false_and]; exact decide_eq_true (by omega)⟩
      simp only [api_Dec_66.l0, if_pos (show ((i : Int) < (l.length : Int)) by omega), if_pos (show (0 : Int) ≤ (i : Int) by omega), rdD_at l i hi, tight_Numbers_1.f]
      exact Ev.bind (u := true) (Ev.bind hd (Ev.const _)) (Ev.const _)
    | true =>
      rw [g] at hd
      refine ⟨r, Ev.succ ?_, by rw [Bool.true_and]; exact q2⟩
      simp only [api_Dec_66.l0, if_pos (show ((i : Int) < (l.length : Int)) by omega), if_pos (show (0 : Int) ≤ (i : Int) by omega), rdD_at l i hi, tight_Numbers_1.f, ix hi (show l.length ≤ 9223372036854775807 by omega)]
      exact Ev.bind (u := false) (Ev.bind hd (Ev.const _)) q1
theorem wrong_ev (l : List S40) (ok : ∀ y ∈ l, OkE y) (hl : l.length ≤ 8000000000000) : Ev (fun k => api_Dec_41.f k l) (!l.all dr) := by
  obtain ⟨r, q1, q2⟩ := wrong_loop l ok hl l.length 0 (by omega) (by omega)
  rw [List.drop_zero] at q2
  simp only [api_Dec_41.f, api_Dec_66.f]
  refine Ev.bind q1 ?_
  rw [q2]
  exact Ev.const _
def bit (v : Int) : Bool := v == 0 || v == 1
theorem great_loop (l : List Int) (ok : ∀ v ∈ l, In64 v) (hl : l.length ≤ 8000000000000) : ∀ d i, i ≤ l.length → l.length - i = d → ∃ r : Int, Ev (fun k => slices_IndexFunc_int_int_great.l0 k l (l.length : Int) (i : Int)) r ∧ decide (r ≥ 0) = !(l.drop i).all bit := by
  intro d
  induction d with
  | zero =>
    intro i h1 h2
    rw [List.drop_eq_nil_of_le (by omega)]
    refine ⟨-1, Ev.succ ?_, rfl⟩
    simp only [slices_IndexFunc_int_int_great.l0, if_neg (show ¬ ((i : Int) < (l.length : Int)) by omega)]
    exact Ev.const _
  | succ d ih =>
    intro i h1 h2
    have hi : i < l.length := by omega
    have hb : tight_Numbers_2.f l[i] = some (!bit l[i]) := by
      unfold tight_Numbers_2.f bit
      rw [← andNot1 l[i] (ok _ (List.getElem_mem _))]; rfl
    obtain ⟨r, q1, q2⟩ := ih (i + 1) (by omega) (by omega)
    rw [List.drop_eq_getElem_cons hi, List.all_cons]
    cases g : bit l[i] with
    | false =>
      rw [g] at hb
      refine ⟨(i : Int), Ev.succ ?_, by rw [Bool.false_and]; exact decide_eq_true (by omega)⟩
      simp only [slices_IndexFunc_int_int_great.l0, if_pos (show ((i : Int) < (l.length : Int)) by omega), if_pos (show (0 : Int) ≤ (i : Int) by omega), rd_at l i hi, hb]
      exact Ev.bind (u := true) (Ev.const _) (Ev.const _)
    | true =>
      rw [g] at hb
      refine ⟨r, Ev.succ ?_, by rw [Bool.true_and]; exact q2⟩
      simp only [slices_IndexFunc_int_int_great.l0, if_pos (show ((i : Int) < (l.length : Int)) by omega), if_pos (show (0 : Int) ≤ (i : Int) by omega), rd_at l i hi, hb, ix hi (show l.length ≤ 9223372036854775807 by omega)]
      exact Ev.bind (u := false) (Ev.const _) q1
theorem great_ev (l : List Int) (ok : ∀ v ∈ l, In64 v) (hl : l.length ≤ 8000000000000) : Ev (fun k => slices_ContainsFunc_int_int_great.f k l) (!l.all bit) := by
  obtain ⟨r, q1, q2⟩ := great_loop l ok hl l.length 0 (by omega) (by omega)
  rw [List.drop_zero] at q2
  simp only [slices_ContainsFunc_int_int_great.f, slices_IndexFunc_int_int_great.f]
  refine Ev.bind q1 ?_
  rw [q2]
  exact Ev.const _
noncomputable def nbS (s : List Int) (l : List S40) : Int × List Int × List Int × List S40 × Bool :=
  if (Sh.cnt s).2 = true ∧ (Sh.cnt s).1 = (l.length : Int) ∧ l.all dr = true then
    (if l.all (fun y => (wh y).2) = true then ((if 0 < l.length ∧ (l.map (fun y => (wh y).1)).all bit = true then 1 else 2), s, l.map (fun y => (wh y).1), [], true) else (4, s, [], l, true))
  else (0, [], [], [], false)
theorem numbers_ev (s : List Int) (l : List S40) (ok : ∀ y ∈ l, OkE y) (hs : s.length ≤ 8000000000000) (hl : l.length ≤ 8000000000000) : Ev (fun k => tight_Numbers.f k s l) (nbS s l) := by
  have hc := cnt_ev s
  have hno : Ev (fun k => tight_Numbers.j0 k s l true) (0, [], [], [], false) := Ev.succ (by simp only [tight_Numbers.j0, if_true]; exact Ev.const _)
  unfold nbS
  revert hc
  generalize Sh.cnt s = c
  intro hc
  simp only [tight_Numbers.f]
  refine Ev.bind hc ?_
  by_cases g1 : c.2 = true
  · by_cases g2 : c.1 = (l.length : Int)
    · simp only [if_pos g1, if_pos g2]
      refine Ev.bind (wrong_ev l ok hl) ?_
      cases g3 : l.all dr with
      | false =>
        rw [if_neg (by simp)]
        exact hno
      | true =>
        rw [if_pos ⟨g1, g2, rfl⟩]
        refine Ev.succ ?_
        simp only [tight_Numbers.j0, Bool.not_true, Bool.false_eq_true, if_false, slices_Clone_int_int.f, Option.bind_some, List.length_nil, Nat.zero_add, List.nil_append, if_pos (show s.length < 17592186044416 by omega)]
        refine Ev.bind (whole_ev l ok hl) ?_
        cases g4 : l.all (fun y => (wh y).2) with
        | false =>
          simp only [Bool.false_eq_true, if_false, api_Dec_45.f, Option.bind_some, List.length_nil, Nat.zero_add, List.nil_append, if_pos (show l.length < 8796093022208 by omega)]
          exact Ev.const _
        | true =>
          simp only [if_true]
          by_cases g5 : (l.length : Int) > 0
          · simp only [if_pos g5]
            have hb := great_ev (l.map (fun y => (wh y).1)) (fun v hv => by obtain ⟨y, hy, rfl⟩ := List.mem_map.1 hv; exact (wh_ev y (ok y hy)).2) (by rw [List.length_map]; exact hl)
            by_cases g6 : (l.map (fun y => (wh y).1)).all bit = true
            · rw [g6] at hb
              refine Ev.bind hb ?_
              rw [if_pos (show 0 < l.length ∧ (l.map (fun y => (wh y).1)).all bit = true from ⟨by omega, g6⟩)]
              simp only [Bool.not_true, Bool.false_eq_true, if_false]; exact Ev.const _
            · rw [Bool.eq_false_iff.mpr g6] at hb
              refine Ev.bind hb ?_
              rw [if_neg (show ¬ (0 < l.length ∧ (l.map (fun y => (wh y).1)).all bit = true) from fun h => g6 h.2)]
              simp only [Bool.not_false, if_true]; exact Ev.const _
          · simp only [if_neg g5]
            rw [if_neg (fun h => g5 (by omega))]
            exact Ev.const _
    · rw [if_neg (fun h => g2 h.2.1)]
      simp only [if_pos g1, if_neg g2]; exact hno
  · rw [if_neg (fun h => g1 h.1)]
    simp only [if_neg g1]; exact hno
theorem nums_loop (l : List Int) (ok : ∀ v ∈ l, In64 v) (hl : l.length ≤ 8000000000000) : ∀ d i (acc : List S40), i ≤ l.length → l.length - i = d → acc.length = i →
    Ev (fun k => tight_numbers.l0 k acc l (l.length : Int) (i : Int)) (acc ++ (l.drop i).map ofD) := by
  intro d
  induction d with
  | zero =>
    intro i acc h1 h2 h3
    rw [List.drop_eq_nil_of_le (by omega)]
    refine Ev.succ ?_
    simp only [tight_numbers.l0, if_neg (show ¬ ((i : Int) < (l.length : Int)) by omega), List.map_nil, List.append_nil]
    exact Ev.const _
  | succ d ih =>
    intro i acc h1 h2 h3
    have hi : i < l.length := by omega
    have hw := ofD_ev l[i] (ok _ (List.getElem_mem _))
    have hv := ih (i + 1) (acc ++ [ofD l[i]]) (by omega) (by omega) (by rw [List.length_append, List.length_singleton, h3])
    rw [List.drop_eq_getElem_cons hi, List.map_cons]
    rw [List.append_assoc, List.singleton_append] at hv
    refine Ev.succ ?_
    simp only [tight_numbers.l0, if_pos (show ((i : Int) < (l.length : Int)) by omega), if_pos (show (0 : Int) ≤ (i : Int) by omega), rd_at l i hi, ix hi (show l.length ≤ 9223372036854775807 by omega)]
    refine Ev.bind hw.1 ?_
    simp only [if_pos (show acc.length < 8796093022208 by omega)]
    exact hv
noncomputable def numS (n : S32) : List S40 := if n.f0 = 4 then n.f3 else n.f2.map ofD
theorem nums_ev (n : S32) (ok : ∀ v ∈ n.f2, In64 v) (hl : n.f2.length ≤ 8000000000000) : Ev (fun k => tight_numbers.f k n.f0 n.f1 n.f2 n.f3) (numS n) := by
  unfold numS
  by_cases g : n.f0 = 4
  · simp only [tight_numbers.f, if_pos g]; exact Ev.const _
  · have := nums_loop n.f2 ok hl n.f2.length 0 [] (by omega) (by omega) rfl
    rw [List.drop_zero, List.nil_append] at this
    simp only [tight_numbers.f, if_neg g]
    exact this
theorem form_one (n : S32) (h3 : n.f0 ≠ 3) (h5 : n.f0 ≠ 5) (o2 : ∀ v ∈ n.f2, In64 v) (o3 : ∀ y ∈ n.f3, OkE y) (l1 : n.f1.length ≤ 8000000000000) (l2 : n.f2.length ≤ 8000000000000) (l3 : n.f3.length ≤ 8000000000000) :
    Ev (fun k => tight_form.f k [n]) [⟨(nbS n.f1 (numS n)).1, (nbS n.f1 (numS n)).2.1, (nbS n.f1 (numS n)).2.2.1, (nbS n.f1 (numS n)).2.2.2.1⟩] := by
  have hok : ∀ y ∈ numS n, OkE y := by
    unfold numS
    by_cases g : n.f0 = 4
    · rw [if_pos g]; exact o3
    · rw [if_neg g]
      intro y hy
      obtain ⟨v, hv, rfl⟩ := List.mem_map.1 hy
      exact (ofD_ev v (o2 v hv)).2.ok (o2 v hv)
  have hlen : (numS n).length ≤ 8000000000000 := by
    unfold numS
    by_cases g : n.f0 = 4
    · rw [if_pos g]; exact l3
    · rw [if_neg g, List.length_map]; exact l2
  refine Ev.succ ?_
  simp only [tight_form.f, List.length_singleton, if_pos (show (0 : Int) < ((1 : Nat) : Int) by decide), show rd_T32 [n] 0 = n from rfl, if_neg h3, if_neg h5]
  refine Ev.bind (nums_ev n o2 (by omega)) ?_
  exact Ev.bind (numbers_ev n.f1 (numS n) hok (by omega) (by omega)) (Ev.const _)
theorem right_one (n : S32) (h5 : n.f0 ≠ 5) (hi : 0 ≤ itm n) : rt [n] = true := by
  have hb := itm_le n
  have hnf : ¬ (itm n < 0 ∨ wrap64 (0 + itm n) > 1048576 ∨ 16 ≤ ([] : List Int).length) := by
    rw [Int.zero_add, w64 (by omega) (by omega)]
    simp only [List.length_nil]
    omega
  have hp : push [] n = [] := by unfold push; rw [if_neg h5]; rfl
  unfold rt tk
  simp only [List.length_singleton, if_pos (show ((1 : Nat) : Int) > 0 by decide), walkS, if_neg hnf, hp, clr_nil, if_true]
  rfl
theorem make_one (n m : S32) (h5 : n.f0 ≠ 5) (hi : 0 ≤ itm n) (ok : Ok n) (hf : Ev (fun k => tight_form.f k [n]) [m]) : Ev (fun k => tight_Make.f k [n]) ([m], true) := by
  have hr := right_ev [n] (fun y hy => by rw [List.mem_singleton.1 hy]; exact ok) (by simp)
  rw [right_one n h5 hi] at hr
  simp only [tight_Make.f]
  refine Ev.bind hr ?_
  simp only [if_true]
  exact Ev.bind hf (Ev.const _)
theorem rightT_one (n : S32) (h5 : n.f0 ≠ 5) (hi : 0 ≤ itm n) (ok : Ok n) (hF : Fit2 n) (hf : Ev (fun k => tight_form.f k [n]) [n]) : Ev (fun k => tight_Right.f k [n]) true := by
  simp only [tight_Right.f]
  refine Ev.bind (make_one n n h5 hi ok hf) ?_
  simp only [if_true]
  have := same_q [n] [n] (by simp) (fun y hy => by rw [List.mem_singleton.1 hy]; exact hF)
  rw [q_t rfl] at this
  exact Ev.bind this (Ev.const _)
def nK (v : Int) : S32 := ⟨if v = 0 ∨ v = 1 then 1 else 2, [], [v], []⟩
theorem kK (v : Int) : (nK v).f0 = 1 ∨ (nK v).f0 = 2 := by
  unfold nK
  by_cases g : v = 0 ∨ v = 1
  · exact .inl (if_pos g)
  · exact .inr (if_neg g)
theorem cnt_nil : Sh.cnt [] = (1, true) := by decide
theorem nbK (v : Int) (h : In64 v) : nbS [] [ofD v] = ((nK v).f0, [], [v], [], true) := by
  have hd1 : [ofD v].all dr = true := by simp only [List.all_cons, List.all_nil, dr_of (ofD_ev v h).2 h, Bool.and_self]
  have hw1 : [ofD v].all (fun y => (wh y).2) = true := by simp only [List.all_cons, List.all_nil, wh_of (ofD_ev v h).2 h, Bool.and_self]
  unfold nbS
  rw [cnt_nil, if_pos ⟨rfl, rfl, hd1⟩, if_pos hw1]
  simp only [List.map_cons, List.map_nil, wh_of (ofD_ev v h).2 h, List.all_cons, List.all_nil, Bool.and_true, List.length_singleton]
  unfold nK bit
  by_cases g : v = 0 ∨ v = 1
  · rw [if_pos g, if_pos ⟨by decide, by rcases g with g | g <;> rw [g] <;> rfl⟩]
  · rw [if_neg g, if_neg (fun e => g (by have := e.2; rw [Bool.or_eq_true] at this; exact this.imp eq_of_beq eq_of_beq))]
theorem okK (v : Int) (h : In64 v) : Ok3 (nK v) := ⟨fun y hy => by simp [nK] at hy, fun x hx => by rw [show (nK v).f2 = [v] from rfl] at hx; rw [List.mem_singleton.1 hx]; exact h, by simp [nK], by simp [nK]⟩
theorem itmK (v : Int) (h : In64 v) : itm (nK v) = 1 := by
  rw [itm_val3 (nK v) (okK v h)]
  have hc : Sh.cnt (nK v).f1 = (1, true) := cnt_nil
  rw [hc]
  have hg : gdK (nK v).f0 1 (nK v).f2 (nK v).f3 = true := by
    have hk := kK v
    unfold gdK
    rw [if_pos (by omega)]
    unfold gd
    rw [show (nK v).f2 = [v] from rfl, show (nK v).f3 = [] from rfl, if_pos (show (([v].length : Nat) : Int) = 1 from rfl), if_pos (show ((([] : List S40).length : Nat) : Int) = 0 from rfl)]
    simp only [List.all_cons, List.all_nil, Bool.and_true]
    unfold nK okI
    by_cases g : v = 0 ∨ v = 1
    · simp only [if_pos g, if_true]
      rcases g with g | g <;> rw [g] <;> rfl
    · simp only [if_neg g]
      rfl
  rw [if_pos rfl, if_pos hg]
theorem trK (v : Int) (h : In64 v) : Ev (fun k => tight_Right.f k [nK v]) true := by
  have hk := kK v
  have hn : numS (nK v) = [ofD v] := by unfold numS; rw [if_neg (by omega)]; rfl
  have hf := form_one (nK v) (by omega) (by omega) (okK v h).2.1 (by simp [nK]) (by simp [nK]) (by simp [nK]) (by simp [nK])
  rw [hn] at hf
  have e1 : nbS (nK v).f1 [ofD v] = ((nK v).f0, [], [v], [], true) := nbK v h
  rw [e1] at hf
  exact rightT_one (nK v) (by omega) (by rw [itmK v h]; omega) (okK v h).1 ⟨by simp [nK], by simp [nK], by simp [nK]⟩ hf
theorem wo : wrap64 (0 + 1) = 1 := by rw [w64 (by omega) (by omega)]; rfl
theorem rcnt0 : Ev (fun k => deckleref09_Count.f k []) (1, true) :=
  ⟨70, fun k hk => at_rounds (g := fun k => deckleref09_Count.f k []) (fun k => deckleref09_Count.mono _ k) hk (by decide +kernel)⟩
theorem rright_ev (v : Int) : Ev (fun k => deckleref10_right.f k 2 [] [v] []) (1, true) := by
  simp only [deckleref10_right.f]
  refine Ev.bind rcnt0 ?_
  simp only [if_true, if_neg (show ¬ (2 : Int) < 1 by decide), decide_eq_false (show ¬ (2 : Int) > 5 by decide)]
  refine Ev.succ ?_
  simp only [deckleref10_right.j0, Bool.false_eq_true, if_false, if_neg (show ¬ (2 : Int) ≥ 4 by decide)]
  refine Ev.succ ?_
  simp only [deckleref10_right.j1, if_neg (show ¬ (2 : Int) = 4 by decide)]
  refine Ev.succ ?_
  simp only [deckleref10_right.j2, List.length_singleton, if_pos (show ((1 : Nat) : Int) = 1 from rfl), List.length_nil, show (((0 : Nat) : Int) != 0) = false from rfl]
  refine Ev.succ ?_
  simp only [deckleref10_right.j3, Bool.false_eq_true, if_false]
  refine Ev.succ ?_
  simp only [deckleref10_right.l0, if_pos (show (0 : Int) < 1 by decide), if_pos (show (0 : Int) ≤ 0 by decide), List.length_singleton, if_pos (show (0 : Int) < ((1 : Nat) : Int) by decide), if_neg (show ¬ (2 : Int) = 1 by decide), if_neg (show ¬ (2 : Int) = 3 by decide), wo]
  refine Ev.succ ?_
  simp only [deckleref10_right.l0, if_neg (show ¬ (1 : Int) < 1 by decide)]
  refine Ev.succ ?_
  simp only [deckleref10_right.l1, if_neg (show ¬ (0 : Int) < 0 by decide)]
  exact Ev.const _
def nI2 (v : Int) : S32 := ⟨2, [], [v], []⟩
theorem rR_ev (v : Int) : Ev (fun k => deckleref10_Right.f k [nI2 v]) true := by
  have hF : Ev (fun k => deckleref10_first.f k [nI2 v] 16) (1, 1, 1) := by
    refine Ev.succ ?_
    simp only [deckleref10_first.f, List.length_singleton, if_neg (show ¬ ((1 : Nat) : Int) = 0 by decide), decide_eq_false (show ¬ (16 : Int) < 1 by decide)]
    refine Ev.succ ?_
    simp only [deckleref10_first.j0, Bool.false_eq_true, if_false, List.length_singleton, if_pos (show (0 : Int) < ((1 : Nat) : Int) by decide), show rd_T32 [nI2 v] 0 = nI2 v from rfl]
    refine Ev.bind (rright_ev v) ?_
    simp only [if_true, if_neg (show ¬ (nI2 v).f0 = 5 by show ¬ (2 : Int) = 5; decide)]
    exact Ev.const _
  simp only [deckleref10_Right.f, deckleref10_Take.f, List.length_singleton, if_pos (show ((1 : Nat) : Int) > 0 by decide)]
  exact Ev.bind (Ev.bind hF (Ev.const _)) (Ev.const _)
theorem rOf_ev (v : Int) (h : In64 v) : Ev (fun k => deckleref06_Of.f k v) ((ofD v).f0, (ofD v).f1) := by
  have := (ofD_ev v h).1
  simp only [deckleref06_Of.f, deckleref06_Norm.f, norm_same]
  simp only [decimal_Of.f, decimal_Norm.f] at this
  exact this
theorem rwhole_up {m : Int} {j : Nat} (hj : j ≤ 18) (h : In64 (m * 10 ^ j)) : ∀ d i, i ≤ j → j - i = d → Ev (fun k => deckleref06_Whole.l0 k (m * 10 ^ i) (i : Int) m (j : Int)) (m * 10 ^ j, true) := by
  intro d
  induction d with
  | zero =>
    intro i h1 h2
    obtain rfl : i = j := by omega
    refine Ev.succ ?_
    simp only [deckleref06_Whole.l0, if_neg (Int.lt_irrefl _)]
    exact Ev.const _
  | succ d ih =>
    intro i h1 h2
    have e : 10 * (m * 10 ^ i) = m * 10 ^ (i + 1) := by rw [Int.pow_succ, ← Int.mul_assoc m, Int.mul_comm (m * 10 ^ i) 10]
    have hb := In64.mul_down (show i + 1 ≤ j by omega) h
    have hb2 := hb
    rw [← e] at hb2
    obtain ⟨b1, b2⟩ := hb
    obtain ⟨c1, c2⟩ := hb2
    have hi : wrap64 ((i : Int) + 1) = ((i + 1 : Nat) : Int) := by rw [w64 (by omega) (by omega)]; omega
    refine Ev.succ ?_
    simp only [deckleref06_Whole.l0, if_pos (show (i : Int) < (j : Int) by omega), if_neg (show ¬ m * 10 ^ i > 922337203685477580 by omega), if_neg (show ¬ m * 10 ^ i < -922337203685477580 by omega), e, w64 b1 b2, hi]
    exact ih (i + 1) (by omega) (by omega)
theorem rwhole_ev (v : Int) (h : In64 v) : Ev (fun k => deckleref06_Right.f k (ofD v).f0 (ofD v).f1) true ∧ Ev (fun k => deckleref06_Whole.f k (ofD v).f0 (ofD v).f1) (v, true) := by
  have ho := (ofD_ev v h).2
  have hr := ho.right
  have hr2 : Ev (fun k => deckleref06_Right.f k (ofD v).f0 (ofD v).f1) true := by simp only [dright_same]; exact hr
  refine ⟨hr2, ?_⟩
  obtain ⟨j, e1, e2, e3, e4, e5⟩ := ho
  simp only [deckleref06_Whole.f]
  refine Ev.bind hr2 ?_
  simp only [if_true, if_neg (show ¬ (ofD v).f1 < 0 by omega), decide_eq_false (show ¬ (ofD v).f1 > 18 by omega)]
  refine Ev.succ ?_
  simp only [deckleref06_Whole.j0, Bool.false_eq_true, if_false]
  have := rwhole_up e2 (m := (ofD v).f0) (by rw [e3]; exact h) j 0 (by omega) (by omega)
  rw [Int.pow_zero, Int.mul_one, e3] at this
  rw [e1]
  exact this
theorem rnumbers_ev (v : Int) (h : In64 v) : Ev (fun k => deckleref11_Numbers.f k [] [ofD v]) ((nK v).f0, [], [v], [], true) := by
  obtain ⟨r1, r2⟩ := rwhole_ev v h
  have hrd : rd_T40 [ofD v] 0 = ofD v := rfl
  have hend : ∀ K : Int, K ≠ 4 → Ev (fun k => deckleref11_Numbers.l0 k [ofD v] 1 1 K []) (K, [], [v], [], true) := fun K hK => by
    refine Ev.succ ?_
    simp only [deckleref11_Numbers.l0, if_neg (show ¬ (1 : Int) < 1 by decide)]
    refine Ev.succ ?_
    simp only [deckleref11_Numbers.l1, if_pos (show (0 : Int) < 1 by decide), if_pos (show (0 : Int) ≤ 0 by decide), List.length_singleton, if_pos (show (0 : Int) < ((1 : Nat) : Int) by decide), hrd]
    refine Ev.bind r2 ?_
    simp only [if_neg hK, List.length_nil, if_pos (show 0 < 17592186044416 by decide), wo, List.nil_append]
    refine Ev.succ ?_
    simp only [deckleref11_Numbers.l1, if_neg (show ¬ (1 : Int) < 1 by decide)]
    exact Ev.const _
  simp only [deckleref11_Numbers.f]
  refine Ev.bind rcnt0 ?_
  simp only [if_true, List.length_singleton, show ((1 : Int) != ((1 : Nat) : Int)) = false from rfl]
  refine Ev.succ ?_
  simp only [deckleref11_Numbers.j0, Bool.false_eq_true, if_false, Option.bind_some, List.length_nil, Nat.add_zero, if_pos (show 0 < 17592186044416 by decide), List.nil_append, if_neg (show ¬ (1 : Int) = 0 by decide)]
  refine Ev.succ ?_
  simp only [deckleref11_Numbers.j1]
  refine Ev.succ ?_
  simp only [deckleref11_Numbers.l0, if_pos (show (0 : Int) < 1 by decide), if_pos (show (0 : Int) ≤ 0 by decide), List.length_singleton, if_pos (show (0 : Int) < ((1 : Nat) : Int) by decide), hrd]
  refine Ev.bind r1 ?_
  simp only [if_true]
  refine Ev.bind r2 ?_
  simp only [if_true, wo]
  unfold nK
  by_cases g0 : v = 0
  · simp only [if_pos g0, if_pos (show v = 0 ∨ v = 1 from .inl g0)]
    exact hend 1 (by decide)
  · by_cases g1 : v = 1
    · simp only [if_neg g0, if_pos g1, if_pos (show v = 0 ∨ v = 1 from .inr g1)]
      exact hend 1 (by decide)
    · simp only [if_neg g0, if_neg g1, if_neg (show ¬ (v = 0 ∨ v = 1) from fun e => e.elim g0 g1)]
      exact hend 2 (by decide)
theorem of_ev (v : Int) (h : In64 v) : Ev (fun k => decklelaw17_of.f k v) [nK v] := by
  have hR := rR_ev v
  have hK : Ev (fun k => deckleref10_Kids.f k [nI2 v]) [] := by
    simp only [deckleref10_Kids.f]
    refine Ev.bind hR ?_
    simp only [if_true, List.length_singleton, if_pos (show (0 : Int) < ((1 : Nat) : Int) by decide), show rd_T32 [nI2 v] 0 = nI2 v from rfl, if_neg (show ¬ (nI2 v).f0 = 5 by show ¬ (2 : Int) = 5; decide)]
    exact Ev.const _
  have hV : Ev (fun k => deckleref11_values.f k 2 [] [v] []) [ofD v] := by
    simp only [deckleref11_values.f, Option.bind_some, List.length_nil, Nat.add_zero, if_pos (show 0 < 8796093022208 by decide), List.append_nil]
    refine Ev.succ ?_
    simp only [deckleref11_values.l0, List.length_singleton, if_pos (show (0 : Int) < ((1 : Nat) : Int) by decide), if_pos (show (0 : Int) ≤ 0 by decide), show rd [v] 0 = v from rfl]
    refine Ev.bind (rOf_ev v h) ?_
    simp only [List.length_nil, if_pos (show 0 < 8796093022208 by decide), List.nil_append, wo]
    refine Ev.succ ?_
    simp only [deckleref11_values.l0, List.length_singleton, if_neg (show ¬ (1 : Int) < ((1 : Nat) : Int) by decide)]
    exact Ev.const _
  have hf : Ev (fun k => deckleref11_form.f k [nI2 v]) [nK v] := by
    refine Ev.succ ?_
    simp only [deckleref11_form.f, List.length_singleton, if_pos (show (0 : Int) < ((1 : Nat) : Int) by decide), show rd_T32 [nI2 v] 0 = nI2 v from rfl, if_neg (show ¬ (nI2 v).f0 = 3 by show ¬ (2 : Int) = 3; decide), if_neg (show ¬ (nI2 v).f0 = 5 by show ¬ (2 : Int) = 5; decide)]
    refine Ev.bind hK ?_
    refine Ev.succ ?_
    simp only [deckleref11_form.j0, if_true]
    exact Ev.bind hV (Ev.bind (rnumbers_ev v h) (Ev.const _))
  simp only [decklelaw17_of.f, deckleref11_Make.f]
  exact Ev.bind (u := ([nK v], true)) (Ev.bind hR (by simp only [if_true]; exact Ev.bind hf (Ev.const _))) (Ev.const _)
theorem aloneK (v : Int) (h : In64 v) : Ev (fun k => system_alone.f k [nK v]) ((ofD v).f0, (ofD v).f1, true) := by
  have hk := kK v
  simp only [system_alone.f, List.length_singleton, if_pos (show (0 : Int) < ((1 : Nat) : Int) by decide), show rd_T32 [nK v] 0 = nK v from rfl, show (nK v).f1 = [] from rfl, show (nK v).f2 = [v] from rfl, List.length_nil, if_neg (show ¬ ((0 : Nat) : Int) > 0 by decide), if_neg (show ¬ (nK v).f0 = 4 by omega), show rd [v] 0 = v from rfl]
  rcases hk with hk | hk
  · simp only [if_pos hk]
    exact Ev.bind (ofD_ev v h).1 (Ev.const _)
  · simp only [if_neg (show ¬ (nK v).f0 = 1 by omega), if_pos hk]
    exact Ev.bind (ofD_ev v h).1 (Ev.const _)
theorem betweenK (v a b : Int) (h : In64 v) : Ev (fun k => system_between.f k [nK v] a b) (decide (a ≤ v ∧ v ≤ b)) := by
  simp only [system_between.f]
  refine Ev.bind (aloneK v h) ?_
  have hw : Ev (fun k => decimal_Whole.f k (ofD v).f0 (ofD v).f1) (v, true) := (ofD_ev v h).2.whole h
  refine Ev.bind hw ?_
  simp only [if_true]
  by_cases g : v ≥ a
  · simp only [if_pos g]
    by_cases g2 : v ≤ b
    · rw [decide_eq_true g2, decide_eq_true (show a ≤ v ∧ v ≤ b from ⟨g, g2⟩)]; exact Ev.const _
    · rw [decide_eq_false g2, decide_eq_false (show ¬ (a ≤ v ∧ v ≤ b) from fun e => g2 e.2)]; exact Ev.const _
  · simp only [if_neg g]
    rw [decide_eq_false (show ¬ (a ≤ v ∧ v ≤ b) from fun e => g e.1)]
    exact Ev.const _
theorem trim_some (s : ByteArray) : ∃ t, strings_TrimPrefix.f s (⟨#[45]⟩ : ByteArray) = some t ∧ t.size ≤ s.size := by
  unfold strings_TrimPrefix.f stringslite_TrimPrefix.f stringslite_HasPrefix.f
  have h1 : (((⟨#[45]⟩ : ByteArray).size : Nat) : Int) = 1 := rfl
  rw [h1]
  by_cases g : (s.size : Int) ≥ 1
  · simp only [if_pos g, if_pos (show (0 : Int) ≤ 1 by decide), if_pos (show (1 : Int) ≤ (s.size : Int) from g), Option.bind_some]
    generalize ((s.extract 0 (1 : Int).toNat).toList == (⟨#[45]⟩ : ByteArray).toList) = b
    cases b with
    | true =>
      simp only [if_true, Option.bind_some]
      exact ⟨_, rfl, by rw [ByteArray.size_extract]; omega⟩
    | false =>
      simp only [Bool.false_eq_true, if_false, Option.bind_some]
      exact ⟨s, rfl, Nat.le_refl _⟩
  · simp only [if_neg g, Option.bind_some, Bool.false_eq_true, if_false]
    exact ⟨s, rfl, Nat.le_refl _⟩
theorem digits_some (m : Int) (h : In64 m) : ∃ s : ByteArray, decimal_digits.f m = some s ∧ s.size ≤ (Go.Lib.itoa m).length := by
  obtain ⟨t, h1, h2⟩ := trim_some ⟨(Go.Lib.itoa m).toArray⟩
  refine ⟨t, ?_, h2⟩
  unfold decimal_digits.f strconv_Itoa_75.f
  rw [if_pos (show -9223372036854775808 ≤ m ∧ m ≤ 9223372036854775807 from h), Option.bind_some, h1]
  rfl
theorem cmp_gt {a b : Int} (h : b < a) : cmp_Compare_int.f a b = some 1 := by
  unfold cmp_Compare_int.f cmp_isNaN_int.f
  simp only [Option.bind_some, bne_self_eq_false, Bool.false_eq_true, if_false, if_neg (show ¬ a < b by omega), if_pos (show a > b from h)]
theorem above_ev (m e : Int) (h : In64 m) (h0 : 0 ≤ e) (h1 : e ≤ 18) : Ev (fun k => decimal_above.f k m e 1 (-8)) 1 := by
  obtain ⟨s, s1, s2⟩ := digits_some m h
  obtain ⟨t, t1, t2⟩ := digits_some 1 (by unfold In64; omega)
  have l1 := Go.Lib.itoa_length_le m h.1 h.2
  have l2 : (Go.Lib.itoa 1).length = 1 := by
    have := Go.Lib.itoa_nonneg 1
    rw [show ((1 : Nat) : Int) = 1 from rfl] at this
    rw [this, Go.Lib.decDigits_one (by decide)]; rfl
  have hc : cmp_Compare_int.f (wrap64 ((s.size : Int) + e)) (wrap64 ((t.size : Int) + (-8))) = some 1 := by
    rw [w64 (by omega) (by omega), w64 (by omega) (by omega)]
    exact cmp_gt (by omega)
  have hs : ∃ c, strings_Compare.f s t = some c := ⟨_, rfl⟩
  obtain ⟨c, hc2⟩ := hs
  have ho : Ev (fun k => cmp_Or_int.f k [1, c]) 1 := by
    simp only [cmp_Or_int.f]
    refine Ev.succ ?_
    simp only [cmp_Or_int.l0, List.length_cons, List.length_nil, if_pos (show (0 : Int) < ((0 + 1 + 1 : Nat) : Int) by decide), if_pos (show (0 : Int) ≤ 0 by decide), show rd [1, c] 0 = 1 from rfl, if_neg (show ¬ (1 : Int) = 0 by decide)]
    exact Ev.const _
  simp only [decimal_above.f, s1, t1, Option.bind_some, hc, hc2]
  exact Ev.bind ho (Ev.const _)
theorem small8 : Ev (fun k => decimal_Right.f k 1 (-8)) true :=
  ⟨60, fun k hk => at_rounds (g := fun k => decimal_Right.f k 1 (-8)) (fun k => decimal_Right.mono _ _ k) hk (by decide +kernel)⟩
theorem compare_ev (v : Int) (h : In64 v) (hv : 0 < v) : Ev (fun k => decimal_Compare.f k (ofD v).f0 (ofD v).f1 1 (-8)) 1 ∧ 0 < (ofD v).f0 := by
  have ho := (ofD_ev v h).2
  have hok := ho.ok h
  have hr := ho.right
  obtain ⟨j, e1, e2, e3, e4, e5⟩ := ho
  have hp : (0 : Int) < 10 ^ j := by
    have := Nat.pow_pos (show 0 < 10 by decide) (n := j)
    exact_mod_cast this
  have hm : 0 < (ofD v).f0 := by
    refine Int.not_le.1 fun hle => ?_
    have := Int.mul_nonneg (show 0 ≤ -(ofD v).f0 by omega) (Int.le_of_lt hp)
    rw [Int.neg_mul] at this
    omega
  refine ⟨?_, hm⟩
  simp only [decimal_Compare.f]
  refine Ev.bind hr ?_
  simp only [if_true]
  refine Ev.succ ?_
  simp only [decimal_Compare.j0]
  refine Ev.bind small8 ?_
  simp only [if_true]
  refine Ev.succ ?_
  simp only [decimal_Compare.j1, cmp_gt hm, cmp_gt (show (0 : Int) < 1 by decide), Option.bind_some, if_true, if_neg (show ¬ (1 : Int) = 0 by decide)]
  refine Ev.bind (above_ev _ _ hok.1 (by omega) (by omega)) ?_
  rw [show wrap64 (1 * 1) = 1 by rw [w64 (by omega) (by omega)]; rfl]
  exact Ev.const _
theorem compare0 : Ev (fun k => decimal_Compare.f k 0 0 1 (-8)) (-1) :=
  ⟨80, fun k hk => at_rounds (g := fun k => decimal_Compare.f k 0 0 1 (-8)) (fun k => decimal_Compare.mono _ _ _ _ k) hk (by decide +kernel)⟩
noncomputable def SR (b : ByteArray) (v : Int) : Bool := if b.toList = ([226, 142, 149, 67, 84] : List UInt8) then (v == 0) else if b.toList = ([226, 142, 149, 73, 79] : List UInt8) then decide (0 ≤ v ∧ v ≤ 1) else if b.toList = ([226, 142, 149, 76, 88] : List UInt8) then false
  else if b.toList = ([226, 142, 149, 80, 80] : List UInt8) then decide (1 ≤ v ∧ v ≤ 18) else if b.toList = ([226, 142, 149, 80, 87] : List UInt8) then decide (30 ≤ v ∧ v ≤ 254) else if b.toList = ([226, 142, 149, 82, 76] : List UInt8) then decide (1 ≤ v ∧ v ≤ 2147483646) else false
theorem sysK (b : ByteArray) (v : Int) (h : In64 v) : Ev (fun k => system_Right.f k b [nK v]) (SR b v) := by
  have hk := kK v
  simp only [system_Right.f]
  refine Ev.bind (trK v h) ?_
  simp only [if_true]
  unfold SR
  by_cases c1 : b.toList = ([226, 142, 149, 67, 84] : List UInt8)
  · simp only [if_pos c1]
    refine Ev.bind (aloneK v h) ?_
    simp only [if_true]
    by_cases z : v = 0
    · have ho := (ofD_ev v h).2
      obtain ⟨j, e1, e2, e3, e4, e5⟩ := ho
      obtain ⟨g1, g2⟩ := e4 z
      rw [e1, g1, g2, z]
      simp only [if_pos (show (0 : Int) ≥ 0 by decide)]
      exact Ev.bind compare0 (Ev.const _)
    · rw [beq_eq_false_iff_ne.mpr z]
      by_cases p : 0 < v
      · obtain ⟨q1, q2⟩ := compare_ev v h p
        simp only [if_pos (show (ofD v).f0 ≥ 0 by omega)]
        exact Ev.bind q1 (Ev.const _)
      · have ho := (ofD_ev v h).2
        obtain ⟨j, e1, e2, e3, e4, e5⟩ := ho
        have hp : (0 : Int) < 10 ^ j := by
          have := Nat.pow_pos (show 0 < 10 by decide) (n := j)
          exact_mod_cast this
        have hm : ¬ (ofD v).f0 ≥ 0 := fun hge => by
          have := Int.mul_nonneg hge (Int.le_of_lt hp)
          omega
        simp only [if_neg hm]
        exact Ev.const _
  · simp only [if_neg c1]
    by_cases c2 : b.toList = ([226, 142, 149, 73, 79] : List UInt8)
    · simp only [if_pos c2]; exact Ev.bind (betweenK v 0 1 h) (Ev.const _)
    · simp only [if_neg c2]
      by_cases c3 : b.toList = ([226, 142, 149, 76, 88] : List UInt8)
      · simp only [if_pos c3, List.length_singleton, if_pos (show (0 : Int) < ((1 : Nat) : Int) by decide), show rd_T32 [nK v] 0 = nK v from rfl, if_neg (show ¬ (nK v).f0 = 3 by omega)]
        exact Ev.const _
      · simp only [if_neg c3]
        by_cases c4 : b.toList = ([226, 142, 149, 80, 80] : List UInt8)
        · simp only [if_pos c4]; exact Ev.bind (betweenK v 1 18 h) (Ev.const _)
        · simp only [if_neg c4]
          by_cases c5 : b.toList = ([226, 142, 149, 80, 87] : List UInt8)
          · simp only [if_pos c5]; exact Ev.bind (betweenK v 30 254 h) (Ev.const _)
          · simp only [if_neg c5]
            by_cases c6 : b.toList = ([226, 142, 149, 82, 76] : List UInt8)
            · simp only [if_pos c6]; exact Ev.bind (betweenK v 1 2147483646 h) (Ev.const _)
            · simp only [if_neg c6]; exact Ev.const _
theorem ok_of_wf {a : Int} (h : (Lit.int .i64 a).wf = true) : -9223372036854775808 ≤ a ∧ a ≤ 9223372036854775807 := by
  have e0 : IntKind.i64.min = -9223372036854775808 := by decide
  have e1 : IntKind.i64.max = 9223372036854775807 := by decide
  simp only [Lit.wf, Bool.and_eq_true, decide_eq_true_eq, e0, e1] at h
  exact h
theorem small_ev : Ev (fun k => decklelaw17_small.f k) true :=
  ⟨200, fun k hk => at_rounds (g := fun k => decklelaw17_small.f k) (fun k => decklelaw17_small.mono k) hk (by decide +kernel)⟩
def nm : List ByteArray := [(⟨#[226, 142, 149, 67, 84]⟩ : ByteArray), (⟨#[226, 142, 149, 73, 79]⟩ : ByteArray), (⟨#[226, 142, 149, 76, 88]⟩ : ByteArray), (⟨#[226, 142, 149, 80, 80]⟩ : ByteArray), (⟨#[226, 142, 149, 80, 87]⟩ : ByteArray), (⟨#[226, 142, 149, 82, 76]⟩ : ByteArray)]
theorem nm_is : system_Names.f = some nm := rfl
theorem rng (a b v : Int) : decide (a ≤ v ∧ v ≤ b) = if v ≥ a then decide (v ≤ b) else false := by
  by_cases g : v ≥ a
  · rw [if_pos g]
    by_cases g2 : v ≤ b
    · rw [decide_eq_true g2, decide_eq_true ⟨g, g2⟩]
    · rw [decide_eq_false g2, decide_eq_false (fun e => g2 e.2)]
  · rw [if_neg g, decide_eq_false (fun e => g e.1)]
theorem sr_all (v : Int) : SR (rdOf ByteArray.empty nm 0) v = (v == 0) ∧ SR (rdOf ByteArray.empty nm 1) v = decide (0 ≤ v ∧ v ≤ 1) ∧ SR (rdOf ByteArray.empty nm 2) v = false ∧ SR (rdOf ByteArray.empty nm 3) v = (if v ≥ 1 then decide (v ≤ 18) else false) ∧
    SR (rdOf ByteArray.empty nm 4) v = (if v ≥ 30 then decide (v ≤ 254) else false) ∧ SR (rdOf ByteArray.empty nm 5) v = (if v ≥ 1 then decide (v ≤ 2147483646) else false) := by
  unfold SR
  refine ⟨?_, ?_, ?_, ?_, ?_, ?_⟩
  · rw [if_pos (by decide +kernel)]
  · rw [if_neg (by decide +kernel), if_pos (by decide +kernel)]
  · rw [if_neg (by decide +kernel), if_neg (by decide +kernel), if_pos (by decide +kernel)]
  · rw [if_neg (by decide +kernel), if_neg (by decide +kernel), if_neg (by decide +kernel), if_pos (by decide +kernel), rng]
  · rw [if_neg (by decide +kernel), if_neg (by decide +kernel), if_neg (by decide +kernel), if_neg (by decide +kernel), if_pos (by decide +kernel), rng]
  · rw [if_neg (by decide +kernel), if_neg (by decide +kernel), if_neg (by decide +kernel), if_neg (by decide +kernel), if_neg (by decide +kernel), if_pos (by decide +kernel), rng]
theorem SystemNumbers : decklelaw17_SystemNumbers.Pure := by
  intro v hw
  have h : In64 v := ok_of_wf hw
  obtain ⟨r0, r1, r2, r3, r4, r5⟩ := sr_all v
  have s0 := sysK (rdOf ByteArray.empty nm 0) v h
  have s1 := sysK (rdOf ByteArray.empty nm 1) v h
  have s2 := sysK (rdOf ByteArray.empty nm 2) v h
  have s3 := sysK (rdOf ByteArray.empty nm 3) v h
  have s4 := sysK (rdOf ByteArray.empty nm 4) v h
  have s5 := sysK (rdOf ByteArray.empty nm 5) v h
  rw [r0] at s0
  rw [r1] at s1
  rw [r2] at s2
  rw [r3] at s3
  rw [r4] at s4
  rw [r5] at s5
  clear r0 r1 r2 r3 r4 r5
  have L : (nm.length : Int) = 6 := rfl
  have main : Ev (fun k => decklelaw17_SystemNumbers.f k v) true := by
    simp only [decklelaw17_SystemNumbers.f]
    refine Ev.bind small_ev (Ev.bind (of_ev v h) ?_)
    simp only [nm_is, Option.bind_some, L, if_true, if_pos (show (0 : Int) < 6 by decide), if_pos (show (1 : Int) < 6 by decide), if_pos (show (2 : Int) < 6 by decide), if_pos (show (3 : Int) < 6 by decide), if_pos (show (4 : Int) < 6 by decide), if_pos (show (5 : Int) < 6 by decide)]
    refine Ev.bind s0 ?_
    simp only [BEq.rfl, if_true]
    refine Ev.bind s1 ?_
    have e1 : (decide (0 ≤ v ∧ v ≤ 1) == (if v = 0 then true else (v == 1))) = true := by
      by_cases z : v = 0
      · rw [if_pos z, z]; rfl
      · rw [if_neg z]
        by_cases y : v = 1
        · rw [y]; rfl
        · rw [decide_eq_false (show ¬ (0 ≤ v ∧ v ≤ 1) by omega), beq_eq_false_iff_ne.mpr y]; rfl
    by_cases z : v = 0
    · rw [if_pos z] at e1
      simp only [if_pos z, e1, if_true]
      refine Ev.bind s2 ?_
      simp only [Bool.false_eq_true, if_false]
      refine Ev.bind s3 ?_
      simp only [if_neg (show ¬ v ≥ 1 by omega), BEq.rfl, if_true]
      refine Ev.bind s4 ?_
      simp only [if_neg (show ¬ v ≥ 30 by omega), BEq.rfl, if_true]
      refine Ev.bind s5 ?_
      simp only [if_neg (show ¬ v ≥ 1 by omega), BEq.rfl]
      exact Ev.const _
    · rw [if_neg z] at e1
      simp only [if_neg z, e1, if_true]
      refine Ev.bind s2 ?_
      simp only [Bool.false_eq_true, if_false]
      refine Ev.bind s3 ?_
      by_cases p : v ≥ 1
      · simp only [if_pos p, BEq.rfl, if_true]
        refine Ev.bind s4 ?_
        by_cases p2 : v ≥ 30
        · simp only [if_pos p2, BEq.rfl, if_true]
          refine Ev.bind s5 ?_
          simp only [if_pos p, BEq.rfl]
          exact Ev.const _
        · simp only [if_neg p2, BEq.rfl, if_true]
          refine Ev.bind s5 ?_
          simp only [if_pos p, BEq.rfl]
          exact Ev.const _
      · simp only [if_neg p, BEq.rfl, if_true]
        refine Ev.bind s4 ?_
        simp only [if_neg (show ¬ v ≥ 30 by omega), BEq.rfl, if_true]
        refine Ev.bind s5 ?_
        simp only [if_neg p, BEq.rfl]
        exact Ev.const _
  exact main.get
end Go.Proofs.YtfjhiiaahbjaiaaDoor.Pure
