import Derived.Test.YtaonclkhjcbgoaaHLimitOrderx4
namespace Go.Proofs.Ytaonclkhjcbgoaa.Pure
open Go.RowKit Go.Proofs.Ytaonclkhjcbgoaa.HLimitOrder Go.Proofs.YtaonclkhjcbgoaaW.PrintWords Go.Proofs.YtaonclkhjcbgoaaW.PrintLast Go.Proofs.YtaonclkhjcbgoaaW.PrintMore
set_option linter.unusedVariables false

/-- No number that is used is above the limit's. -/
def under (x y : Int) : Bool := decide (mx y 0 ≤ mx x 0)
theorem mn_le (u v : Int) : (v == mn u v) = decide (v ≤ u) := by
  unfold mn
  by_cases h : v < u
  · rw [if_pos h, decide_eq_true (by omega)]; simp
  · rw [if_neg h]
    by_cases h2 : v = u
    · subst h2; simp
    · rw [decide_eq_false (by omega)]; simp; omega
def adm (a0 a1 a2 a3 a4 b0 b1 b2 b3 b4 : Int) : Bool := under a0 b0 && (under a1 b1 && (under a2 b2 && (under a3 b3 && under a4 b4)))
theorem admits_eq (a0 a1 a2 a3 a4 b0 b1 b2 b3 b4 : Int) : limit_Admits.f a0 a1 a2 a3 a4 b0 b1 b2 b3 b4 = some (adm a0 a1 a2 a3 a4 b0 b1 b2 b3 b4) := by
  unfold limit_Admits.f limit_fair.f adm under
  simp only [Option.bind_some, mn_le]
theorem adm_iff (a0 a1 a2 a3 a4 b0 b1 b2 b3 b4 : Int) : adm a0 a1 a2 a3 a4 b0 b1 b2 b3 b4 = true ↔ (mx b0 0 ≤ mx a0 0 ∧ mx b1 0 ≤ mx a1 0 ∧ mx b2 0 ≤ mx a2 0 ∧ mx b3 0 ≤ mx a3 0 ∧ mx b4 0 ≤ mx a4 0) := by
  unfold adm under
  simp only [Bool.and_eq_true, decide_eq_true_eq]
theorem mx_pos (x : Int) : 0 ≤ mx x 0 := by unfold mx; split <;> omega
theorem mx_of {x : Int} (h : 0 ≤ x) : mx x 0 = x := by unfold mx; rw [if_neg (by omega)]
theorem mn_pos (x : Int) (h : 0 ≤ x) : 0 ≤ mn x 1099511627776 := by unfold mn; split <;> omega
/-- Limits admit themselves, and what is admitted by what they admit. -/
theorem LimitOrder : ∀ (a0 a1 a2 a3 a4 b0 b1 b2 b3 b4 c0 c1 c2 c3 c4 : Int), decklelaw19_LimitOrder.f a0 a1 a2 a3 a4 b0 b1 b2 b3 b4 c0 c1 c2 c3 c4 = some true := by
  intro a0 a1 a2 a3 a4 b0 b1 b2 b3 b4 c0 c1 c2 c3 c4
  have hm := mn_pos (mx a4 0) (mx_pos a4)
  have e1 : adm a0 a1 a2 a3 a4 a0 a1 a2 a3 a4 = true := (adm_iff _ _ _ _ _ _ _ _ _ _).2 ⟨Int.le_refl _, Int.le_refl _, Int.le_refl _, Int.le_refl _, Int.le_refl _⟩
  have e2 : adm a0 a1 a2 a3 (mn (mx a4 0) 1099511627776 + 1) a0 a1 a2 a3 (mn (mx a4 0) 1099511627776) = true := (adm_iff _ _ _ _ _ _ _ _ _ _).2 ⟨Int.le_refl _, Int.le_refl _, Int.le_refl _, Int.le_refl _, by rw [mx_of hm, mx_of (show 0 ≤ mn (mx a4 0) 1099511627776 + 1 by omega)]; omega⟩
  have e3 : adm a0 a1 a2 a3 (mn (mx a4 0) 1099511627776) a0 a1 a2 a3 (mn (mx a4 0) 1099511627776 + 1) = false := Bool.eq_false_iff.2 fun h => by
    have h5 := ((adm_iff _ _ _ _ _ _ _ _ _ _).1 h).2.2.2.2
    rw [mx_of hm, mx_of (show 0 ≤ mn (mx a4 0) 1099511627776 + 1 by omega)] at h5
    omega
  have e4 : adm a0 a1 a2 a3 a4 0 0 0 0 0 = true := (adm_iff _ _ _ _ _ _ _ _ _ _).2 ⟨by rw [mx_of (Int.le_refl 0)]; exact mx_pos _, by rw [mx_of (Int.le_refl 0)]; exact mx_pos _, by rw [mx_of (Int.le_refl 0)]; exact mx_pos _, by rw [mx_of (Int.le_refl 0)]; exact mx_pos _, by rw [mx_of (Int.le_refl 0)]; exact mx_pos _⟩
  unfold decklelaw19_LimitOrder.f
  simp only [decklelaw19_small.f, Option.bind_some, admits_eq, e1, e2, e3, e4, if_true]
  by_cases h1 : adm a0 a1 a2 a3 a4 b0 b1 b2 b3 b4 = true
  · by_cases h2 : adm b0 b1 b2 b3 b4 c0 c1 c2 c3 c4 = true
    · have h3 : adm a0 a1 a2 a3 a4 c0 c1 c2 c3 c4 = true := by
        obtain ⟨x0, x1, x2, x3, x4⟩ := (adm_iff _ _ _ _ _ _ _ _ _ _).1 h1
        obtain ⟨y0, y1, y2, y3, y4⟩ := (adm_iff _ _ _ _ _ _ _ _ _ _).1 h2
        exact (adm_iff _ _ _ _ _ _ _ _ _ _).2 ⟨by omega, by omega, by omega, by omega, by omega⟩
      simp [h1, h2, h3]
    · simp [h1, h2]
  · simp [h1]
end Go.Proofs.Ytaonclkhjcbgoaa.Pure
