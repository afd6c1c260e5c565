import Derived.Test.YtngpdacbmkfbcaaHShapeBackx
namespace Go.Proofs.Ytngpdacbmkfbcaa.Pure
open Go.RowKit Go.Proofs.Ytngpdacbmkfbcaa.HShapeBack Go.Proofs.YtngpdacbmkfbcaaW.PrintWords Go.Proofs.YtngpdacbmkfbcaaW.PrintLast
set_option linter.unusedVariables false

theorem w64 {n : Int} (h1 : -9223372036854775808 ≤ n) (h2 : n ≤ 9223372036854775807) : wrap64 n = n := by unfold wrap64; omega
theorem int_of_wf {x : Int} (h : (Lit.int .i64 x).wf = true) : -9223372036854775808 ≤ x ∧ x ≤ 9223372036854775807 := by
  have e0 : IntKind.i64.min = -9223372036854775808 := by decide
  have e1 : IntKind.i64.max = 9223372036854775807 := by decide
  simp only [Lit.wf, Bool.and_eq_true, decide_eq_true_eq, e0, e1] at h
  exact h
theorem rd_at (b : List Int) (m : Nat) (h : m < b.length) : rd b (m : Int) = b[m] := by
  unfold rd
  rw [List.getD_eq_getElem?_getD, Int.toNat_natCast, List.getElem?_eq_getElem h]; rfl
theorem up64 (m : Nat) (h : m ≤ 1000000) : wrap64 ((m : Int) + 1) = ((m + 1 : Nat) : Int) := by rw [w64 (by omega) (by omega)]; omega

/-- one of a shape's numbers that is not right -/
def bad (x : Int) : Bool := decide (x < 0 ∨ 1048576 < x)
def isz (x : Int) : Bool := decide (0 = x)
/-- the product of a shape's numbers -/
def P : List Int → Int
  | [] => 1
  | x :: r => x * P r
def cnt2 (s : List Int) : Int × Bool := if s.any bad = true then (0, false) else if s.any isz = true then (0, true) else if P s ≤ 1048576 then (P s, true) else (0, false)
/-- how many items a shape has -/
def cnt (s : List Int) : Int × Bool := if s.length > 16 then (0, false) else cnt2 s

theorem one_f (a : Int) : shape_Count_1.f a = some (bad a) := by
  unfold shape_Count_1.f bad
  by_cases c : a < 0
  · rw [if_pos c]; simp [c]
  · rw [if_neg c]; simp [c]
theorem ifunc_loop (s : List Int) (hl : s.length ≤ 1000) (d : Nat) : ∀ (K m : Nat), m ≤ s.length → s.length - m = d → d + 1 ≤ K → ∃ r : Int, slices_IndexFunc_int_int.l0 K s (s.length : Int) (m : Int) = some r ∧ decide (r ≥ 0) = (s.drop m).any bad := by
  induction d with
  | zero =>
    intro K m h1 h2 h3
    obtain ⟨K, rfl⟩ : ∃ q, K = q + 1 := ⟨K - 1, by omega⟩
    refine ⟨-1, ?_, ?_⟩
    · simp only [slices_IndexFunc_int_int.l0]; rw [if_neg (by omega)]
    · rw [List.drop_eq_nil_of_le (by omega)]; rfl
  | succ d ih =>
    intro K m h1 h2 h3
    obtain ⟨K, rfl⟩ : ∃ q, K = q + 1 := ⟨K - 1, by omega⟩
    have c : m < s.length := by omega
    rw [List.drop_eq_getElem_cons c, List.any_cons]
    simp only [slices_IndexFunc_int_int.l0]
    rw [if_pos (by omega), if_pos (by omega), if_pos (by omega), rd_at s m c, one_f]
    simp only [Option.bind_some]
    by_cases g : bad s[m] = true
    · rw [if_pos g]
      exact ⟨m, rfl, by rw [g]; simp⟩
    · rw [if_neg g, up64 m (by omega)]
      obtain ⟨r, e1, e2⟩ := ih K (m + 1) (by omega) (by omega) (by omega)
      exact ⟨r, e1, by rw [e2, Bool.eq_false_iff.2 g]; rfl⟩
theorem cfunc_eq (s : List Int) (hl : s.length ≤ 1000) (K : Nat) (hK : s.length + 1 ≤ K) : slices_ContainsFunc_int_int.f K s = some (s.any bad) := by
  obtain ⟨r, e1, e2⟩ := ifunc_loop s hl s.length K 0 (by omega) (by omega) hK
  unfold slices_ContainsFunc_int_int.f slices_IndexFunc_int_int.f
  rw [show (0 : Int) = ((0 : Nat) : Int) from rfl, e1]
  rw [List.drop_zero] at e2
  simp only [Option.bind_some]
  rw [← e2]; rfl
theorem index_loop (s : List Int) (hl : s.length ≤ 1000) (d : Nat) : ∀ (K m : Nat), m ≤ s.length → s.length - m = d → d + 1 ≤ K → ∃ r : Int, slices_Index_int_int.l0 K s 0 (s.length : Int) (m : Int) = some r ∧ decide (r ≥ 0) = (s.drop m).any isz := by
  induction d with
  | zero =>
    intro K m h1 h2 h3
    obtain ⟨K, rfl⟩ : ∃ q, K = q + 1 := ⟨K - 1, by omega⟩
    refine ⟨-1, ?_, ?_⟩
    · simp only [slices_Index_int_int.l0]; rw [if_neg (by omega)]
    · rw [List.drop_eq_nil_of_le (by omega)]; rfl
  | succ d ih =>
    intro K m h1 h2 h3
    obtain ⟨K, rfl⟩ : ∃ q, K = q + 1 := ⟨K - 1, by omega⟩
    have c : m < s.length := by omega
    rw [List.drop_eq_getElem_cons c, List.any_cons]
    simp only [slices_Index_int_int.l0]
    rw [if_pos (by omega), if_pos (by omega), if_pos (by omega), rd_at s m c]
    by_cases g : 0 = s[m]
    · rw [if_pos g]
      exact ⟨m, rfl, by unfold isz; rw [decide_eq_true g]; simp⟩
    · rw [if_neg g, up64 m (by omega)]
      obtain ⟨r, e1, e2⟩ := ih K (m + 1) (by omega) (by omega) (by omega)
      exact ⟨r, e1, by unfold isz at e2 ⊢; rw [e2, decide_eq_false g]; rfl⟩
theorem cont_eq (s : List Int) (hl : s.length ≤ 1000) (K : Nat) (hK : s.length + 1 ≤ K) : slices_Contains_int_int.f K s 0 = some (s.any isz) := by
  obtain ⟨r, e1, e2⟩ := index_loop s hl s.length K 0 (by omega) (by omega) hK
  unfold slices_Contains_int_int.f slices_Index_int_int.f
  rw [show slices_Index_int_int.l0 K s 0 (s.length : Int) 0 = some r from e1]
  rw [List.drop_zero] at e2
  simp only [Option.bind_some]
  rw [← e2]

def good (s : List Int) : Prop := ∀ x ∈ s, 1 ≤ x ∧ x ≤ 1048576
theorem good_of (s : List Int) (h1 : ¬ s.any bad = true) (h2 : ¬ s.any isz = true) : good s := by
  intro x hx
  have a1 : ¬ bad x = true := fun h => h1 (List.any_eq_true.2 ⟨x, hx, h⟩)
  have a2 : ¬ isz x = true := fun h => h2 (List.any_eq_true.2 ⟨x, hx, h⟩)
  unfold bad at a1; unfold isz at a2
  simp only [decide_eq_true_eq] at a1 a2
  omega
theorem good_bad {s : List Int} (h : good s) : ¬ s.any bad = true := by
  intro h1
  obtain ⟨x, hx, h2⟩ := List.any_eq_true.1 h1
  have := h x hx
  unfold bad at h2
  simp only [decide_eq_true_eq] at h2
  omega
theorem good_isz {s : List Int} (h : good s) : ¬ s.any isz = true := by
  intro h1
  obtain ⟨x, hx, h2⟩ := List.any_eq_true.1 h1
  have := h x hx
  unfold isz at h2
  simp only [decide_eq_true_eq] at h2
  omega
theorem P_pos : ∀ (s : List Int), good s → 1 ≤ P s
  | [], _ => by unfold P; omega
  | x :: r, h => by
    have h1 := h x (by simp)
    have h2 := P_pos r (fun y hy => h y (by simp [hy]))
    unfold P
    have := Int.mul_le_mul h1.1 h2 (by omega) (by omega)
    omega
theorem good_tl {x : Int} {r : List Int} (h : good (x :: r)) : (1 ≤ x ∧ x ≤ 1048576) ∧ good r := ⟨h x (by simp), fun y hy => h y (by simp [hy])⟩
theorem good_drop {s : List Int} (h : good s) (m : Nat) : good (s.drop m) := fun x hx => h x (List.mem_of_mem_drop hx)
theorem mul_small {a x : Int} (h1 : 1 ≤ a) (h2 : a ≤ 1048576) (h3 : 1 ≤ x) (h4 : x ≤ 1048576) : 1 ≤ a * x ∧ a * x ≤ 1099511627776 := by
  have := Int.mul_le_mul h1 h3 (by omega) (by omega)
  have := Int.mul_le_mul h2 h4 (by omega) (by omega)
  omega
theorem count_loop (s : List Int) (hs : good s) (hl : s.length ≤ 1000) (d : Nat) : ∀ (K m : Nat) (acc : Int), m ≤ s.length → s.length - m = d → d + 1 ≤ K → 1 ≤ acc → acc ≤ 1048576 →
    shape_Count.l0 K acc s (s.length : Int) (m : Int) = some (if acc * P (s.drop m) ≤ 1048576 then (acc * P (s.drop m), true) else (0, false)) := by
  induction d with
  | zero =>
    intro K m acc h1 h2 h3 h4 h5
    obtain ⟨K, rfl⟩ : ∃ q, K = q + 1 := ⟨K - 1, by omega⟩
    simp only [shape_Count.l0]
    rw [if_neg (by omega), List.drop_eq_nil_of_le (by omega), show acc * P [] = acc from by unfold P; omega, if_pos h5]
  | succ d ih =>
    intro K m acc h1 h2 h3 h4 h5
    obtain ⟨K, rfl⟩ : ∃ q, K = q + 1 := ⟨K - 1, by omega⟩
    have c : m < s.length := by omega
    have hx := hs _ (List.getElem_mem c)
    have hm := mul_small h4 h5 hx.1 hx.2
    have hp := P_pos (s.drop (m + 1)) (good_drop hs _)
    simp only [shape_Count.l0]
    rw [if_pos (by omega), if_pos (by omega), if_pos (by omega), rd_at s m c, w64 (n := acc * s[m]) (by omega) (by omega), one_f, List.drop_eq_getElem_cons c, up64 m (by omega), show acc * P (s[m] :: s.drop (m + 1)) = acc * s[m] * P (s.drop (m + 1)) by rw [P, Int.mul_assoc]]
    simp only [Option.bind_some]
    by_cases g : acc * s[m] ≤ 1048576
    · rw [if_neg (by unfold bad; simp only [decide_eq_true_eq]; omega), ih K (m + 1) _ (by omega) (by omega) (by omega) hm.1 g]
    · rw [if_pos (by unfold bad; simp only [decide_eq_true_eq]; omega)]
      have := Int.mul_le_mul (show acc * s[m] ≤ acc * s[m] by omega) hp (by omega) (by omega)
      rw [if_neg (by omega)]
theorem count_eq (s : List Int) (K : Nat) (hK : 40 ≤ K) : shape_Count.f K s = some (cnt s) := by
  unfold shape_Count.f cnt
  obtain ⟨K, rfl⟩ : ∃ q, K = q + 1 := ⟨K - 1, by omega⟩
  by_cases c : s.length > 16
  · rw [if_pos (by omega), if_pos c]
    simp only [shape_Count.j0]
    rw [if_pos trivial]
  · rw [if_neg (by omega), if_neg c, cfunc_eq s (by omega) _ (by omega)]
    simp only [Option.bind_some, shape_Count.j0]
    unfold cnt2
    by_cases h1 : s.any bad = true
    · rw [if_pos h1, if_pos h1]
    · rw [if_neg h1, if_neg h1, cont_eq s (by omega) _ (by omega)]
      simp only [Option.bind_some]
      by_cases h2 : s.any isz = true
      · rw [if_pos h2, if_pos h2]
      · rw [if_neg h2, if_neg h2]
        have := count_loop s (good_of s h1 h2) (by omega) s.length K 0 1 (by omega) (by omega) (by omega) (by omega) (by omega)
        rw [List.drop_zero, Int.one_mul] at this
        exact this
/-- a right shape that has an item -/
theorem cnt_good {s : List Int} (h : (cnt s).2 = true) (h2 : ¬ s.any isz = true) : s.length ≤ 16 ∧ good s ∧ P s ≤ 1048576 ∧ cnt s = (P s, true) := by
  unfold cnt at h ⊢
  by_cases c : s.length > 16
  · rw [if_pos c] at h; simp at h
  · rw [if_neg c] at h ⊢
    unfold cnt2 at h ⊢
    by_cases h1 : s.any bad = true
    · rw [if_pos h1] at h; simp at h
    · rw [if_neg h1] at h ⊢
      rw [if_neg h2] at h ⊢
      by_cases h3 : P s ≤ 1048576
      · rw [if_pos h3]; exact ⟨by omega, good_of s h1 h2, h3, rfl⟩
      · rw [if_neg h3] at h; simp at h
theorem cnt_of {s : List Int} (h1 : s.length ≤ 16) (h2 : good s) (h3 : P s ≤ 1048576) : cnt s = (P s, true) := by
  unfold cnt cnt2
  rw [if_neg (by omega), if_neg (good_bad h2), if_neg (good_isz h2), if_pos h3]
theorem cnt_len {s : List Int} (h : (cnt s).2 = true) : s.length ≤ 16 := by
  unfold cnt at h
  by_cases c : s.length > 16
  · rw [if_pos c] at h; simp at h
  · omega
theorem cnt_pos {s : List Int} (h : 0 < (cnt s).1) : s.length ≤ 16 ∧ good s ∧ P s ≤ 1048576 ∧ cnt s = (P s, true) := by
  have h0 : (cnt s).2 = true ∧ ¬ s.any isz = true := by
    unfold cnt cnt2 at h ⊢
    split at h
    · simp at h
    · rename_i c; rw [if_neg c]
      split at h
      · simp at h
      · rename_i c; rw [if_neg c]
        split at h
        · simp at h
        · rename_i c; rw [if_neg c]
          split at h
          · rename_i c2; rw [if_pos c2]; exact ⟨rfl, c⟩
          · simp at h
  exact cnt_good h0.1 h0.2

/-- the place of an item, of the numbers that are left -/
def pl : List Int → List Int → Int → Int × Bool
  | x :: s, a :: r, n => if a < 0 then (0, false) else if a ≥ x then (0, false) else pl s r (wrap64 (wrap64 (n * x) + a))
  | _, _, n => (n, true)
def place (s l : List Int) : Int × Bool := if (cnt s).2 = true ∧ l.length = s.length then pl s l 0 else (0, false)
theorem place_loop (s l : List Int) (he : l.length = s.length) (hl : s.length ≤ 1000) (d : Nat) : ∀ (K m : Nat) (n : Int), m ≤ s.length → s.length - m = d → d + 1 ≤ K →
    shape_Place.l0 K s n l (l.length : Int) (m : Int) = some (pl (s.drop m) (l.drop m) n) := by
  induction d with
  | zero =>
    intro K m n h1 h2 h3
    obtain ⟨K, rfl⟩ : ∃ q, K = q + 1 := ⟨K - 1, by omega⟩
    simp only [shape_Place.l0]
    rw [if_neg (by omega), List.drop_eq_nil_of_le (by omega), List.drop_eq_nil_of_le (by omega)]
    rfl
  | succ d ih =>
    intro K m n h1 h2 h3
    obtain ⟨K, rfl⟩ : ∃ q, K = q + 1 := ⟨K - 1, by omega⟩
    have c : m < s.length := by omega
    have c2 : m < l.length := by omega
    simp only [shape_Place.l0]
    rw [if_pos (by omega), if_pos (by omega), if_pos (by omega), rd_at l m c2, List.drop_eq_getElem_cons c, List.drop_eq_getElem_cons c2, pl]
    by_cases g : l[m] < 0
    · rw [if_pos g, if_pos g]
    · rw [if_neg g, if_neg g, if_pos (by omega), rd_at s m c]
      by_cases g2 : l[m] ≥ s[m]
      · rw [if_pos g2, if_pos g2]
      · rw [if_neg g2, if_neg g2, up64 m (by omega), ih K (m + 1) _ (by omega) (by omega) (by omega)]
theorem place_eq (s l : List Int) (K : Nat) (hK : 40 ≤ K) : shape_Place.f K s l = some (place s l) := by
  unfold shape_Place.f place
  obtain ⟨K, rfl⟩ : ∃ q, K = q + 1 := ⟨K - 1, by omega⟩
  rw [count_eq s _ hK]
  simp only [Option.bind_some, shape_Place.j0]
  by_cases c : (cnt s).2 = true
  · have hl := cnt_len c
    rw [if_pos c]
    by_cases e : l.length = s.length
    · rw [if_pos (show (cnt s).2 = true ∧ l.length = s.length from ⟨c, e⟩), if_neg (by simp [e])]
      have := place_loop s l e (by omega) s.length K 0 0 (by omega) (by omega) (by omega)
      simpa using this
    · rw [if_neg (show ¬ ((cnt s).2 = true ∧ l.length = s.length) from fun h => e h.2), if_pos (by simp; omega)]
  · rw [if_neg c, if_neg (show ¬ ((cnt s).2 = true ∧ l.length = s.length) from fun h => c h.1)]; rfl

/-- where the item of a place is -/
def ixf : List Int → Int → List Int
  | [], _ => []
  | _ :: s, i => (i / P s) :: ixf s (i % P s)
def index (s : List Int) (i : Int) : List Int × Bool := if 0 ≤ i ∧ i < (cnt s).1 then (ixf s i, true) else ([], false)
theorem ixf_len : ∀ (s : List Int) (i : Int), (ixf s i).length = s.length
  | [], _ => rfl
  | _ :: s, i => by simp [ixf, ixf_len s]
theorem index_bounds {s : List Int} {i : Int} (h1 : 0 ≤ i) (h2 : i < (cnt s).1) : s.length ≤ 16 ∧ good s ∧ P s ≤ 1048576 ∧ cnt s = (P s, true) ∧ i < P s := by
  have h := cnt_pos (s := s) (by omega)
  have e : (cnt s).1 = P s := by rw [h.2.2.2]
  exact ⟨h.1, h.2.1, h.2.2.1, h.2.2.2, by omega⟩
theorem set_mid (pre : List Int) (x y : Int) (r : List Int) : (pre ++ x :: r).set pre.length y = pre ++ y :: r := by
  induction pre with
  | nil => rfl
  | cons a t ih => simp [ih]
theorem index_loop2 (s : List Int) (hs : good s) (hl : s.length ≤ 1000) (d : Nat) : ∀ (K m : Nat) (i : Int) (pre : List Int), m ≤ s.length → s.length - m = d → d + 1 ≤ K → pre.length = m → 0 ≤ i → i < P (s.drop m) → P (s.drop m) ≤ 1048576 →
    shape_Index.l0 K s i (P (s.drop m)) (pre ++ List.replicate d 0) (s.length : Int) (m : Int) = some (pre ++ ixf (s.drop m) i, true) := by
  induction d with
  | zero =>
    intro K m i pre h1 h2 h3 h4 h5 h6 h7
    obtain ⟨K, rfl⟩ : ∃ q, K = q + 1 := ⟨K - 1, by omega⟩
    simp only [shape_Index.l0]
    rw [if_neg (by omega), List.drop_eq_nil_of_le (by omega)]
    rfl
  | succ d ih =>
    intro K m i pre h1 h2 h3 h4 h5 h6 h7
    obtain ⟨K, rfl⟩ : ∃ q, K = q + 1 := ⟨K - 1, by omega⟩
    have c : m < s.length := by omega
    have hx := hs _ (List.getElem_mem c)
    have hp := P_pos (s.drop (m + 1)) (good_drop hs _)
    rw [List.drop_eq_getElem_cons c] at h6 h7 ⊢
    simp only [P] at h6 h7 ⊢
    have hle : P (s.drop (m + 1)) ≤ 1048576 := by
      have := Int.mul_le_mul hx.1 (Int.le_refl (P (s.drop (m + 1)))) (by omega) (by omega)
      omega
    have hdiv : Int.tdiv (s[m] * P (s.drop (m + 1))) s[m] = P (s.drop (m + 1)) := by
      rw [Int.mul_tdiv_cancel_left _ (by omega)]
    have hm0 : 0 ≤ i % P (s.drop (m + 1)) := Int.emod_nonneg _ (by omega)
    have hm1 : i % P (s.drop (m + 1)) < P (s.drop (m + 1)) := Int.emod_lt_of_pos _ (by omega)
    have hq0 : 0 ≤ i / P (s.drop (m + 1)) := Int.ediv_nonneg h5 (by omega)
    have hq1 : i / P (s.drop (m + 1)) ≤ i := Int.ediv_le_self _ h5
    simp only [shape_Index.l0]
    rw [if_pos (by omega), if_pos (by omega), if_pos (by omega), rd_at s m c, if_neg (by omega), hdiv, w64 (n := P (s.drop (m + 1))) (by omega) (by omega), if_neg (by omega), if_pos (by simp; omega),
      Int.tdiv_eq_ediv_of_nonneg h5, Int.tmod_eq_emod_of_nonneg h5, w64 (n := i / P (s.drop (m + 1))) (by omega) (by omega), up64 m (by omega), Int.toNat_natCast, List.replicate_succ]
    have e := set_mid pre 0 (i / P (s.drop (m + 1))) (List.replicate d 0)
    rw [h4] at e
    rw [e, show pre ++ (i / P (s.drop (m + 1))) :: List.replicate d 0 = (pre ++ [i / P (s.drop (m + 1))]) ++ List.replicate d 0 by simp, ih K (m + 1) _ _ (by omega) (by omega) (by omega) (by simp [h4]) hm0 hm1 hle]
    simp [ixf]
theorem index_eq (s : List Int) (i : Int) (K : Nat) (hK : 40 ≤ K) : shape_Index.f K s i = some (index s i) := by
  unfold shape_Index.f
  obtain ⟨K, rfl⟩ : ∃ q, K = q + 1 := ⟨K - 1, by omega⟩
  rw [count_eq s _ hK]
  simp only [Option.bind_some, shape_Index.j0, if_true]
  by_cases c : 0 ≤ i ∧ i < (cnt s).1
  · obtain ⟨b1, b2, b3, b4, b5⟩ := index_bounds c.1 c.2
    unfold index
    rw [if_pos c, b4]
    simp only [if_true]
    rw [if_neg (by omega), if_neg (by simp; omega), if_pos (by omega), if_pos (by omega)]
    have := index_loop2 s b2 (by omega) s.length K 0 i [] (by omega) (by omega) (by omega) rfl c.1 (by simpa using b5) (by simpa using b3)
    simpa using this
  · unfold index
    rw [if_neg c]
    by_cases c2 : (cnt s).2 = true
    · rw [if_pos c2]
      by_cases c3 : i < 0
      · rw [if_pos c3]
      · rw [if_neg c3, if_pos (by simp; omega)]
    · rw [if_neg c2]

/-- the place of where an item is -/
theorem pl_ixf : ∀ (s : List Int) (i n : Int), good s → 0 ≤ i → i < P s → 0 ≤ n → n * P s + i ≤ 1048576 → pl s (ixf s i) n = (n * P s + i, true)
  | [], i, n, _, h1, h2, h3, h4 => by
    simp only [P] at h2 ⊢
    simp only [pl]
    rw [show n * 1 + i = n by omega]
  | x :: s, i, n, hg, h1, h2, h3, h4 => by
    obtain ⟨hx, hs⟩ := good_tl hg
    have hp := P_pos s hs
    simp only [P] at h2 h4 ⊢
    have hm0 : 0 ≤ i % P s := Int.emod_nonneg _ (by omega)
    have hm1 : i % P s < P s := Int.emod_lt_of_pos _ (by omega)
    have hq0 : 0 ≤ i / P s := Int.ediv_nonneg h1 (by omega)
    have hq1 : i / P s < x := Int.ediv_lt_of_lt_mul (by omega) h2
    have hq2 : i / P s ≤ i := Int.ediv_le_self _ h1
    have hnx : 0 ≤ n * x := Int.mul_nonneg h3 (by omega)
    have hb : n * x ≤ n * x * P s := by
      have := Int.mul_le_mul_of_nonneg_left hp hnx
      omega
    have ha : n * (x * P s) = n * x * P s := (Int.mul_assoc _ _ _).symm
    have hd := Int.mul_ediv_add_emod i (P s)
    simp only [ixf, pl]
    rw [if_neg (by omega), if_neg (by omega), w64 (n := n * x) (by omega) (by omega), w64 (n := n * x + i / P s) (by omega) (by omega)]
    have e : (n * x + i / P s) * P s = n * x * P s + P s * (i / P s) := by rw [Int.add_mul, Int.mul_comm (i / P s)]
    rw [pl_ixf s (i % P s) (n * x + i / P s) hs hm0 hm1 (by omega) (by omega), e, ha]
    congr 1; omega
/-- where the item of a place is that was told -/
theorem ixf_pl : ∀ (s l : List Int) (n p : Int), good s → l.length = s.length → 0 ≤ n → (n + 1) * P s ≤ 1048576 → pl s l n = (p, true) → n * P s ≤ p ∧ p < (n + 1) * P s ∧ ixf s (p - n * P s) = l
  | [], [], n, p, _, _, h1, h2, h => by
    have e : n = p := by simpa [pl] using h
    subst e
    refine ⟨?_, ?_, rfl⟩ <;> simp only [P] <;> omega
  | x :: s, a :: l, n, p, hg, he, h1, h2, h => by
    obtain ⟨hx, hs⟩ := good_tl hg
    have hp := P_pos s hs
    simp only [P] at h2 ⊢
    simp only [pl] at h
    by_cases c1 : a < 0
    · rw [if_pos c1] at h; simp at h
    by_cases c2 : a ≥ x
    · rw [if_neg c1, if_pos c2] at h; simp at h
    rw [if_neg c1, if_neg c2] at h
    have hnx : 0 ≤ n * x := Int.mul_nonneg h1 (by omega)
    have hk : (n + 1) * (x * P s) = (n + 1) * x * P s := (Int.mul_assoc _ _ _).symm
    have hk2 : (n + 1) * x = n * x + x := by rw [Int.add_mul, Int.one_mul]
    have ha : n * (x * P s) = n * x * P s := (Int.mul_assoc _ _ _).symm
    have hle : (n * x + a + 1) * P s ≤ (n * x + x) * P s := Int.mul_le_mul_of_nonneg_right (by omega) (by omega)
    have hb : n * x + a + 1 ≤ (n * x + a + 1) * P s := by
      have := Int.mul_le_mul_of_nonneg_left hp (show 0 ≤ n * x + a + 1 by omega)
      omega
    rw [hk2] at hk
    rw [w64 (n := n * x) (by omega) (by omega), w64 (n := n * x + a) (by omega) (by omega)] at h
    obtain ⟨g1, g2, g3⟩ := ixf_pl s l (n * x + a) p hs (by simpa using he) (by omega) (by omega) h
    have e1 : (n * x + a) * P s = n * x * P s + a * P s := Int.add_mul _ _ _
    have e2 : (n * x + a + 1) * P s = n * x * P s + a * P s + P s := by rw [Int.add_mul, e1, Int.one_mul]
    have h0 : 0 ≤ a * P s := Int.mul_nonneg (by omega) (by omega)
    refine ⟨by omega, by omega, ?_⟩
    have e3 : p - n * (x * P s) = (p - (n * x + a) * P s) + a * P s := by omega
    simp only [ixf]
    rw [e3, Int.add_mul_ediv_right _ _ (by omega), Int.add_mul_emod_self_right, Int.ediv_eq_zero_of_lt (by omega) (by omega), Int.emod_eq_of_lt (by omega) (by omega), g3, Int.zero_add]
/-- a shape with a 0 has no item -/
theorem pl_zero : ∀ (s l : List Int) (n : Int), s.any isz = true → l.length = s.length → pl s l n = (0, false)
  | [], _, _, h, _ => by simp at h
  | x :: s, [], _, _, he => by simp at he
  | x :: s, a :: l, n, h, he => by
    simp only [pl]
    by_cases c1 : a < 0
    · rw [if_pos c1]
    by_cases c2 : a ≥ x
    · rw [if_neg c1, if_pos c2]
    rw [if_neg c1, if_neg c2]
    refine pl_zero s l _ ?_ (by simpa using he)
    rw [List.any_cons] at h
    have : isz x = false := by unfold isz; exact decide_eq_false (by omega)
    rw [this, Bool.false_or] at h
    exact h
theorem place_true {s l : List Int} (h : (place s l).2 = true) : l.length = s.length ∧ s.length ≤ 16 ∧ good s ∧ P s ≤ 1048576 ∧ cnt s = (P s, true) ∧ pl s l 0 = ((place s l).1, true) ∧ 0 ≤ (place s l).1 ∧ (place s l).1 < P s ∧ ixf s (place s l).1 = l := by
  unfold place at h ⊢
  by_cases c : (cnt s).2 = true ∧ l.length = s.length
  · rw [if_pos c] at h ⊢
    have hz : ¬ s.any isz = true := fun hz => by rw [pl_zero s l 0 hz c.2] at h; simp at h
    obtain ⟨b1, b2, b3, b4⟩ := cnt_good c.1 hz
    have e : pl s l 0 = ((pl s l 0).1, true) := by rw [← h]
    obtain ⟨g1, g2, g3⟩ := ixf_pl s l 0 _ b2 c.2 (by omega) (by omega) e
    refine ⟨c.2, b1, b2, b3, b4, e, by omega, by omega, ?_⟩
    rw [Int.zero_mul, Int.sub_zero] at g3; exact g3
  · rw [if_neg c] at h; simp at h
theorem same_loop (a : List Int) (ha : a.length ≤ 9223372036854775807) (d : Nat) : ∀ (k m : Nat), m ≤ a.length → a.length - m = d → d < k → deckleref01_Same.l0 k a a (m : Int) = some true := by
  induction d with
  | zero =>
    intro k m h1 h2 hk
    obtain ⟨k, rfl⟩ : ∃ q, k = q + 1 := ⟨k - 1, by omega⟩
    simp only [deckleref01_Same.l0]
    rw [if_neg (by omega)]
  | succ d ih =>
    intro k m h1 h2 hk
    obtain ⟨k, rfl⟩ : ∃ q, k = q + 1 := ⟨k - 1, by omega⟩
    have hw : wrap64 ((m : Int) + 1) = ((m + 1 : Nat) : Int) := by rw [w64 (by omega) (by omega)]; omega
    simp only [deckleref01_Same.l0]
    rw [if_pos (by omega), if_pos (by omega), if_pos (by omega), if_pos trivial, hw]
    exact ih k (m + 1) (by omega) (by omega) (by omega)
theorem same_refl (a : List Int) (k : Nat) (ha : a.length < k) (hk : k ≤ 9223372036854775807) : deckleref01_Same.f k a a = some true := by
  unfold deckleref01_Same.f
  rw [if_pos rfl]
  exact same_loop a (by omega) a.length k 0 (by omega) (by omega) ha

theorem small_all (k : Nat) (h : 60 ≤ k) : decklelaw09_small.f k = some true := at_rounds (fun k => decklelaw09_small.mono k) h (by decide +kernel)

/-- An item's place tells where it is, and where it is tells its place. -/
theorem ShapeBack : decklelaw09_ShapeBack.Pure := by
  intro s l i h1 h2 h3 h4 h5 h6 h7
  have out : ∀ a b c, decklelaw09_ShapeBack.j0 100 a b c true true = some true := by
    intro a b c
    show decklelaw09_ShapeBack.j0 (99 + 1) _ _ _ _ _ = _
    simp only [decklelaw09_ShapeBack.j0]
    rw [if_pos trivial]
  refine ⟨100, ?_⟩
  unfold decklelaw09_ShapeBack.f
  rw [small_all 100 (by omega)]
  simp only [Option.bind_some]
  by_cases c : (s.length : Int) > 50
  · rw [if_pos c]; exact out _ _ _
  · rw [if_neg c]
    by_cases c2 : (l.length : Int) > 50
    · rw [decide_eq_true c2]; exact out _ _ _
    · rw [decide_eq_false c2]
      show decklelaw09_ShapeBack.j0 (99 + 1) _ _ _ _ _ = _
      have fin : decklelaw09_ShapeBack.j1 99 s l true (cnt s).1 (cnt s).2 false = some true := by
        show decklelaw09_ShapeBack.j1 (98 + 1) _ _ _ _ _ _ = _
        simp only [decklelaw09_ShapeBack.j1]
        rw [if_neg (by simp), place_eq s l 98 (by omega)]
        simp only [Option.bind_some]
        rw [index_eq s _ 98 (by omega)]
        simp only [Option.bind_some, if_true]
        by_cases g : (place s l).2 = true
        · obtain ⟨g1, g2, g3, g4, g5, g6, g7, g8, g9⟩ := place_true g
          rw [if_pos g]
          have e : index s (place s l).1 = (l, true) := by
            unfold index
            rw [g5]; simp only []
            rw [if_pos ⟨g7, g8⟩, g9]
          rw [e, g5]
          simp only [if_true]
          rw [if_pos (by omega), if_pos g8, same_refl l 98 (by omega) (by omega)]
          rfl
        · rw [if_neg g]
      simp only [decklelaw09_ShapeBack.j0]
      rw [if_neg (by simp), count_eq s 99 (by omega), index_eq s i 99 (by omega)]
      simp only [Option.bind_some]
      rw [place_eq s _ 99 (by omega)]
      simp only [Option.bind_some]
      by_cases q : 0 ≤ i ∧ i < (cnt s).1
      · obtain ⟨b1, b2, b3, b4, b5⟩ := index_bounds q.1 q.2
        have e : index s i = (ixf s i, true) := by unfold index; rw [if_pos q]
        have e2 : place s (ixf s i) = (i, true) := by
          unfold place
          rw [b4]
          simp only []
          rw [if_pos ⟨trivial, ixf_len s i⟩, pl_ixf s i 0 b2 q.1 b5 (by omega) (by omega), Int.zero_mul, Int.zero_add]
        have hd : decide (i < (cnt s).1) = true := decide_eq_true q.2
        have ht : (cnt s).2 = true := by rw [b4]
        rw [e]
        simp only []
        rw [e2, hd, if_pos ht, if_pos q.1, if_neg (by simp)]
        simp only [if_true, ixf_len]
        rw [show ((s.length : Int) != (s.length : Int)) = false by simp]
        exact fin
      · have e : index s i = ([], false) := by unfold index; rw [if_neg q]
        rw [e]
        simp only []
        by_cases t : (cnt s).2 = true
        · rw [if_pos t]
          by_cases z : i ≥ 0
          · rw [if_pos z, decide_eq_false (by omega), if_neg (by simp), if_neg (by simp)]
            exact fin
          · rw [if_neg z, if_neg (by simp), if_neg (by simp)]
            exact fin
        · rw [if_neg t, if_neg (by simp), if_neg (by simp)]
          exact fin

end Go.Proofs.Ytngpdacbmkfbcaa.Pure
