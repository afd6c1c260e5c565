import Derived.Test.YtaonclkhjcbgoaaHLimitHoldsx5
namespace Go.Proofs.Ytaonclkhjcbgoaa.Pure
open Go.RowKit Go.Proofs.Ytaonclkhjcbgoaa.HLimitHolds Go.Proofs.YtaonclkhjcbgoaaW.PrintWords Go.Proofs.YtaonclkhjcbgoaaW.PrintLast Go.Proofs.YtaonclkhjcbgoaaW.PrintMore
set_option linter.unusedVariables false

/-- No number that is used is above the limit's. -/
def under (x y : Int) : Bool := decide (mx y 0 ≤ mx x 0)
theorem mn_le (u v : Int) : (v == mn u v) = decide (v ≤ u) := by
  unfold mn
  by_cases h : v < u
  · rw [if_pos h, decide_eq_true (by omega)]; simp
  · rw [if_neg h]
    by_cases h2 : v = u
    · subst h2; simp
    · rw [decide_eq_false (by omega)]; simp; omega
def adm (a0 a1 a2 a3 a4 b0 b1 b2 b3 b4 : Int) : Bool := under a0 b0 && (under a1 b1 && (under a2 b2 && (under a3 b3 && under a4 b4)))
theorem admits_eq (a0 a1 a2 a3 a4 b0 b1 b2 b3 b4 : Int) : limit_Admits.f a0 a1 a2 a3 a4 b0 b1 b2 b3 b4 = some (adm a0 a1 a2 a3 a4 b0 b1 b2 b3 b4) := by
  unfold limit_Admits.f limit_fair.f adm under
  simp only [Option.bind_some, mn_le]
theorem adm_iff (a0 a1 a2 a3 a4 b0 b1 b2 b3 b4 : Int) : adm a0 a1 a2 a3 a4 b0 b1 b2 b3 b4 = true ↔ (mx b0 0 ≤ mx a0 0 ∧ mx b1 0 ≤ mx a1 0 ∧ mx b2 0 ≤ mx a2 0 ∧ mx b3 0 ≤ mx a3 0 ∧ mx b4 0 ≤ mx a4 0) := by
  unfold adm under
  simp only [Bool.and_eq_true, decide_eq_true_eq]
theorem mx_pos (x : Int) : 0 ≤ mx x 0 := by unfold mx; split <;> omega
theorem mx_of {x : Int} (h : 0 ≤ x) : mx x 0 = x := by unfold mx; rw [if_neg (by omega)]
theorem mn_pos (x : Int) (h : 0 ≤ x) : 0 ≤ mn x 1099511627776 := by unfold mn; split <;> omega

theorem w64 {n : Int} (h1 : -9223372036854775808 ≤ n) (h2 : n ≤ 9223372036854775807) : wrap64 n = n := by unfold wrap64; omega
theorem int_of_wf {x : Int} (h : (Lit.int .i64 x).wf = true) : -9223372036854775808 ≤ x ∧ x ≤ 9223372036854775807 := by
  have e0 : IntKind.i64.min = -9223372036854775808 := by decide
  have e1 : IntKind.i64.max = 9223372036854775807 := by decide
  simp only [Lit.wf, Bool.and_eq_true, decide_eq_true_eq, e0, e1] at h
  exact h
theorem mx_le (x : Int) (h : x ≤ 9223372036854775807) : mx x 0 ≤ 9223372036854775807 := by unfold mx; split <;> omega
/-- What is used stands between 0 and the limits. -/
def In (u1 u2 u3 u4 ov m0 m1 m2 m3 m4 : Int) : Prop := (0 ≤ u1 ∧ u1 ≤ m1) ∧ (0 ≤ u2 ∧ u2 ≤ m2) ∧ (0 ≤ u3 ∧ u3 ≤ m3) ∧ (0 ≤ u4 ∧ u4 ≤ m4) ∧ (ov = 0 ∨ ov = 2 ∨ ov = 3 ∨ ov = 4 ∨ ov = 5) ∧ m1 ≤ 9223372036854775807 ∧ m4 ≤ 9223372036854775807 ∧ 0 ≤ m0
/-- One act. -/
def Step (u1 u2 u3 u4 ov m0 m1 m2 m3 m4 : Int) (r : Option (Int × Int × Int × Int × Int × Int × Int × Int × Int × Int × Int × Int)) : Prop :=
  ∃ n v1 v2 v3 v4 : Int, r = some (n, 0, v1, v2, v3, v4, n, m0, m1, m2, m3, m4) ∧ In v1 v2 v3 v4 n m0 m1 m2 m3 m4 ∧ (n ≠ 0 → v1 = u1 ∧ v2 = u2 ∧ v3 = u3 ∧ v4 = u4) ∧ (ov ≠ 0 → n = ov) ∧ u1 ≤ v1 ∧ u2 ≤ v2 ∧ u3 ≤ v3 ∧ u4 ≤ v4
theorem cross_f (u1 u2 u3 u4 ov m0 m1 m2 m3 m4 : Int) (b : Bool) (q : Int) (hq : q ≠ 0) : limit_tally_cross.f 0 u1 u2 u3 u4 ov m0 m1 m2 m3 m4 b q = some ((if b = true ∧ ov = 0 then true else (ov != 0)), 0, u1, u2, u3, u4, (if b = true ∧ ov = 0 then q else ov), m0, m1, m2, m3, m4) := by
  unfold limit_tally_cross.f
  by_cases h : b = true
  · rw [if_pos h]
    by_cases h2 : ov = 0
    · rw [if_pos h2, if_pos ⟨h, h2⟩, if_pos ⟨h, h2⟩]
      have : (q != 0) = true := by simpa using hq
      rw [this]
    · rw [if_neg h2, if_neg (fun x => h2 x.2), if_neg (fun x => h2 x.2)]
  · rw [if_neg h, if_neg (fun x => h x.1), if_neg (fun x => h x.1)]
theorem object_step (u1 u2 u3 u4 ov m0 m1 m2 m3 m4 : Int) (h : In u1 u2 u3 u4 ov m0 m1 m2 m3 m4) : Step u1 u2 u3 u4 ov m0 m1 m2 m3 m4 (limit_Meter_Object.f 0 u1 u2 u3 u4 ov m0 m1 m2 m3 m4) := by
  unfold In at h
  unfold limit_Meter_Object.f Step
  rw [cross_f _ _ _ _ _ _ _ _ _ _ _ 2 (by decide)]
  simp only [Option.bind_some]
  by_cases c : (u1 == m1) = true ∧ ov = 0
  · simp only [if_pos c, if_true]
    refine ⟨2, u1, u2, u3, u4, rfl, ?_, by omega, by omega, by omega, by omega, by omega, by omega⟩
    unfold In; omega
  · simp only [if_neg c]
    by_cases z : ov = 0
    · have hb : (ov != 0) = false := by simp [z]
      have hne : u1 ≠ m1 := fun e => c ⟨by simp [e], z⟩
      rw [hb, if_neg (by simp), w64 (by omega) (by omega), z]
      refine ⟨0, u1 + 1, u2, u3, u4, rfl, ?_, by omega, by omega, by omega, by omega, by omega, by omega⟩
      unfold In; omega
    · have hb : (ov != 0) = true := by simp [z]
      rw [hb, if_pos rfl]
      refine ⟨ov, u1, u2, u3, u4, rfl, ?_, by omega, by omega, by omega, by omega, by omega, by omega⟩
      unfold In; omega
theorem node_step (u1 u2 u3 u4 ov m0 m1 m2 m3 m4 r d n : Int) (h : In u1 u2 u3 u4 ov m0 m1 m2 m3 m4) : Step u1 u2 u3 u4 ov m0 m1 m2 m3 m4 (limit_Meter_Node.f 0 u1 u2 u3 u4 ov m0 m1 m2 m3 m4 r d n) := by
  unfold In at h
  have hr := mx_pos r
  have hd := mx_pos d
  have hn := mx_pos n
  unfold limit_Meter_Node.f Step
  rw [cross_f _ _ _ _ _ _ _ _ _ _ _ 3 (by decide)]
  simp only [Option.bind_some]
  by_cases z : ov = 0
  case neg =>
    have hb : (ov != 0) = true := by simp [z]
    simp only [if_neg (fun x : decide (mx r 0 > m2) = true ∧ ov = 0 => z x.2), hb, if_true]
    refine ⟨ov, u1, u2, u3, u4, rfl, ?_, by omega, by omega, by omega, by omega, by omega, by omega⟩
    unfold In; omega
  subst z
  by_cases c1 : mx r 0 > m2
  · simp only [c1, decide_true, and_self, if_true]
    refine ⟨3, u1, u2, u3, u4, rfl, ?_, by omega, by omega, by omega, by omega, by omega, by omega⟩
    unfold In; omega
  simp only [c1, decide_false, Bool.false_eq_true, false_and, if_false, bne_self_eq_false]
  rw [cross_f _ _ _ _ _ _ _ _ _ _ _ 4 (by decide)]
  simp only [Option.bind_some]
  by_cases c2 : mx d 0 > m3
  · simp only [c2, decide_true, and_self, if_true]
    refine ⟨4, u1, u2, u3, u4, rfl, ?_, by omega, by omega, by omega, by omega, by omega, by omega⟩
    unfold In; omega
  simp only [c2, decide_false, Bool.false_eq_true, false_and, if_false, bne_self_eq_false]
  rw [cross_f _ _ _ _ _ _ _ _ _ _ _ 5 (by decide), w64 (n := m4 - u4) (by omega) (by omega)]
  simp only [Option.bind_some]
  by_cases c3 : mx n 0 > m4 - u4
  · simp only [c3, decide_true, and_self, if_true]
    refine ⟨5, u1, u2, u3, u4, rfl, ?_, by omega, by omega, by omega, by omega, by omega, by omega⟩
    unfold In; omega
  simp only [c3, decide_false, Bool.false_eq_true, false_and, if_false, bne_self_eq_false]
  rw [w64 (n := u4 + mx n 0) (by omega) (by omega)]
  have e2 : u2 ≤ mx u2 (mx r 0) ∧ mx u2 (mx r 0) ≤ m2 := by generalize mx r 0 = y at *; unfold mx; split <;> omega
  have e3 : u3 ≤ mx u3 (mx d 0) ∧ mx u3 (mx d 0) ≤ m3 := by generalize mx d 0 = y at *; unfold mx; split <;> omega
  refine ⟨0, u1, mx u2 (mx r 0), mx u3 (mx d 0), u4 + mx n 0, rfl, ?_, by omega, by omega, by omega, by omega, by omega, by omega⟩
  unfold In; omega
theorem round (k : Nat) (l : List S33) (i n ov a0 a1 a2 a3 a4 u1 u2 u3 u4 v1 v2 v3 v4 : Int) (hI : In v1 v2 v3 v4 n (mx a0 0) (mx a1 0) (mx a2 0) (mx a3 0) (mx a4 0)) (h0 : 0 ≤ u1 ∧ 0 ≤ u2 ∧ 0 ≤ u3 ∧ 0 ≤ u4) (h1 : n ≠ 0 → v1 = u1 ∧ v2 = u2 ∧ v3 = u3 ∧ v4 = u4) (h2 : ov ≠ 0 → n = ov) (h3 : u1 ≤ v1 ∧ u2 ≤ v2 ∧ u3 ≤ v3 ∧ u4 ≤ v4) :
    decklelaw19_LimitHolds.j1 (k + 1) l true ov i n a0 a1 a2 a3 a4 0 v1 v2 v3 v4 n (mx a0 0) (mx a1 0) (mx a2 0) (mx a3 0) (mx a4 0) 0 u1 u2 u3 u4 = decklelaw19_LimitHolds.l0 k l true n (wrap64 (i + 1)) a0 a1 a2 a3 a4 0 v1 v2 v3 v4 n (mx a0 0) (mx a1 0) (mx a2 0) (mx a3 0) (mx a4 0) 0 v1 v2 v3 v4 := by
  unfold In at hI
  have z0 : mx 0 0 = 0 := by decide
  have e1 : adm a0 a1 a2 a3 a4 0 v1 v2 v3 v4 = true := (adm_iff _ _ _ _ _ _ _ _ _ _).2 (by rw [z0, mx_of (x := v1) (by omega), mx_of (x := v2) (by omega), mx_of (x := v3) (by omega), mx_of (x := v4) (by omega)]; omega)
  have e2 : adm 0 v1 v2 v3 v4 0 u1 u2 u3 u4 = true := (adm_iff _ _ _ _ _ _ _ _ _ _).2 (by rw [z0, mx_of (x := v1) (by omega), mx_of (x := v2) (by omega), mx_of (x := v3) (by omega), mx_of (x := v4) (by omega), mx_of (x := u1) (by omega), mx_of (x := u2) (by omega), mx_of (x := u3) (by omega), mx_of (x := u4) (by omega)]; omega)
  simp only [decklelaw19_LimitHolds.j1, limit_tally_Used.f, limit_tally_Over.f, Option.bind_some, admits_eq, e1, e2, if_true]
  have n1 : ¬ n < 0 := by omega
  have n2 : ¬ n > 5 := by omega
  have n3 : ¬ n = 1 := by omega
  simp only [n1, n2, n3, if_false]
  by_cases c : n = 0
  · have c2 : ov = 0 := by
      by_cases q : ov = 0
      · exact q
      · have := h2 q; omega
    simp only [c2, c, if_true]
  · obtain ⟨rfl, rfl, rfl, rfl⟩ := h1 c
    simp only [beq_self_eq_true, Bool.not_true, Bool.or_self, Bool.false_eq_true, if_false, c]
    by_cases c2 : ov = 0
    · simp only [c2, if_true]
    · have := h2 c2
      subst this
      simp only [c, if_false, if_true]
theorem holds_loop (l : List S33) (hl : l.length ≤ 100) (a0 a1 a2 a3 a4 : Int) (d : Nat) : ∀ (K m : Nat) (ov u1 u2 u3 u4 : Int), m ≤ l.length → l.length - m = d → 2 * d + 2 ≤ K → In u1 u2 u3 u4 ov (mx a0 0) (mx a1 0) (mx a2 0) (mx a3 0) (mx a4 0) →
    decklelaw19_LimitHolds.l0 K l true ov (m : Int) a0 a1 a2 a3 a4 0 u1 u2 u3 u4 ov (mx a0 0) (mx a1 0) (mx a2 0) (mx a3 0) (mx a4 0) 0 u1 u2 u3 u4 = some true := by
  induction d with
  | zero =>
    intro K m ov u1 u2 u3 u4 h1 h2 h3 hI
    obtain ⟨K, rfl⟩ : ∃ q, K = q + 1 := ⟨K - 1, by omega⟩
    simp only [decklelaw19_LimitHolds.l0]
    rw [if_neg (by omega)]
  | succ d ih =>
    intro K m ov u1 u2 u3 u4 h1 h2 h3 hI
    obtain ⟨K, rfl⟩ : ∃ q, K = q + 2 := ⟨K - 2, by omega⟩
    have hu : 0 ≤ u1 ∧ 0 ≤ u2 ∧ 0 ≤ u3 ∧ 0 ≤ u4 := by unfold In at hI; omega
    have hw : wrap64 ((m : Int) + 1) = ((m + 1 : Nat) : Int) := by rw [w64 (by omega) (by omega)]; omega
    simp only [decklelaw19_LimitHolds.l0]
    rw [if_pos (by omega), if_pos (by omega)]
    split
    · obtain ⟨n, v1, v2, v3, v4, e, hJ, s1, s2, s3⟩ := object_step u1 u2 u3 u4 ov _ _ _ _ _ hI
      rw [e]
      simp only [Option.bind_some]
      rw [round K l m n ov a0 a1 a2 a3 a4 u1 u2 u3 u4 v1 v2 v3 v4 hJ hu s1 s2 s3, hw]
      exact ih K (m + 1) n v1 v2 v3 v4 (by omega) (by omega) (by omega) hJ
    · obtain ⟨n, v1, v2, v3, v4, e, hJ, s1, s2, s3⟩ := node_step u1 u2 u3 u4 ov _ _ _ _ _ _ _ _ hI
      rw [e]
      simp only [Option.bind_some]
      rw [round K l m n ov a0 a1 a2 a3 a4 u1 u2 u3 u4 v1 v2 v3 v4 hJ hu s1 s2 s3, hw]
      exact ih K (m + 1) n v1 v2 v3 v4 (by omega) (by omega) (by omega) hJ
/-- What was used is never more than the limits, never less than it was; the first limit that was crossed stays. -/
theorem LimitHolds (a0 a1 a2 a3 a4 : Int) (w0 : (Lit.int .i64 a0).wf = true) (w1 : (Lit.int .i64 a1).wf = true) (w2 : (Lit.int .i64 a2).wf = true) (w3 : (Lit.int .i64 a3).wf = true) (w4 : (Lit.int .i64 a4).wf = true) (l : List S33) : decklelaw19_LimitHolds.f 300 a0 a1 a2 a3 a4 l = some true := by
  unfold decklelaw19_LimitHolds.f limit_New.f limit_fair.f
  simp only [decklelaw19_small.f, Option.bind_some]
  by_cases c : (l.length : Int) > 100
  · rw [if_pos c]
  · rw [if_neg c]
    refine holds_loop l (by omega) a0 a1 a2 a3 a4 l.length 300 0 0 0 0 0 0 (by omega) (by omega) (by omega) ?_
    have := mx_pos a0; have := mx_pos a1; have := mx_pos a2; have := mx_pos a3; have := mx_pos a4
    have := mx_le a1 (int_of_wf w1).2
    have := mx_le a4 (int_of_wf w4).2
    unfold In; omega
end Go.Proofs.Ytaonclkhjcbgoaa.Pure
