import Derived.Test.YtaonclkhjcbgoaaHLimitMetersx6
namespace Go.Proofs.Ytaonclkhjcbgoaa.Pure
open Go.RowKit Go.Proofs.Ytaonclkhjcbgoaa.HLimitMeters Go.Proofs.YtaonclkhjcbgoaaW.PrintWords Go.Proofs.YtaonclkhjcbgoaaW.PrintLast Go.Proofs.YtaonclkhjcbgoaaW.PrintMore
set_option linter.unusedVariables false
set_option linter.unusedSimpArgs false

/-- No number that is used is above the limit's. -/
def under (x y : Int) : Bool := decide (mx y 0 ≤ mx x 0)
theorem mn_le (u v : Int) : (v == mn u v) = decide (v ≤ u) := by
  unfold mn
  by_cases h : v < u
  · rw [if_pos h, decide_eq_true (by omega)]; simp
  · rw [if_neg h]
    by_cases h2 : v = u
    · subst h2; simp
    · rw [decide_eq_false (by omega)]; simp; omega
def adm (a0 a1 a2 a3 a4 b0 b1 b2 b3 b4 : Int) : Bool := under a0 b0 && (under a1 b1 && (under a2 b2 && (under a3 b3 && under a4 b4)))
theorem admits_eq (a0 a1 a2 a3 a4 b0 b1 b2 b3 b4 : Int) : limit_Admits.f a0 a1 a2 a3 a4 b0 b1 b2 b3 b4 = some (adm a0 a1 a2 a3 a4 b0 b1 b2 b3 b4) := by
  unfold limit_Admits.f limit_fair.f adm under
  simp only [Option.bind_some, mn_le]
theorem adm_iff (a0 a1 a2 a3 a4 b0 b1 b2 b3 b4 : Int) : adm a0 a1 a2 a3 a4 b0 b1 b2 b3 b4 = true ↔ (mx b0 0 ≤ mx a0 0 ∧ mx b1 0 ≤ mx a1 0 ∧ mx b2 0 ≤ mx a2 0 ∧ mx b3 0 ≤ mx a3 0 ∧ mx b4 0 ≤ mx a4 0) := by
  unfold adm under
  simp only [Bool.and_eq_true, decide_eq_true_eq]
theorem mx_pos (x : Int) : 0 ≤ mx x 0 := by unfold mx; split <;> omega
theorem mx_of {x : Int} (h : 0 ≤ x) : mx x 0 = x := by unfold mx; rw [if_neg (by omega)]
theorem mn_pos (x : Int) (h : 0 ≤ x) : 0 ≤ mn x 1099511627776 := by unfold mn; split <;> omega

theorem w64 {n : Int} (h1 : -9223372036854775808 ≤ n) (h2 : n ≤ 9223372036854775807) : wrap64 n = n := by unfold wrap64; omega
theorem int_of_wf {x : Int} (h : (Lit.int .i64 x).wf = true) : -9223372036854775808 ≤ x ∧ x ≤ 9223372036854775807 := by
  have e0 : IntKind.i64.min = -9223372036854775808 := by decide
  have e1 : IntKind.i64.max = 9223372036854775807 := by decide
  simp only [Lit.wf, Bool.and_eq_true, decide_eq_true_eq, e0, e1] at h
  exact h
theorem mx_le (x : Int) (h : x ≤ 9223372036854775807) : mx x 0 ≤ 9223372036854775807 := by unfold mx; split <;> omega
/-- What is used stands between 0 and the limits. -/
def In (u1 u2 u3 u4 ov m0 m1 m2 m3 m4 : Int) : Prop := (0 ≤ u1 ∧ u1 ≤ m1) ∧ (0 ≤ u2 ∧ u2 ≤ m2) ∧ (0 ≤ u3 ∧ u3 ≤ m3) ∧ (0 ≤ u4 ∧ u4 ≤ m4) ∧ (ov = 0 ∨ ov = 2 ∨ ov = 3 ∨ ov = 4 ∨ ov = 5) ∧ m1 ≤ 9223372036854775807 ∧ m4 ≤ 9223372036854775807 ∧ 0 ≤ m0
theorem cross_f (u1 u2 u3 u4 ov m0 m1 m2 m3 m4 : Int) (b : Bool) (q : Int) (hq : q ≠ 0) : limit_tally_cross.f 0 u1 u2 u3 u4 ov m0 m1 m2 m3 m4 b q = some ((if b = true ∧ ov = 0 then true else (ov != 0)), 0, u1, u2, u3, u4, (if b = true ∧ ov = 0 then q else ov), m0, m1, m2, m3, m4) := by
  unfold limit_tally_cross.f
  by_cases h : b = true
  · rw [if_pos h]
    by_cases h2 : ov = 0
    · rw [if_pos h2, if_pos ⟨h, h2⟩, if_pos ⟨h, h2⟩]
      have : (q != 0) = true := by simpa using hq
      rw [this]
    · rw [if_neg h2, if_neg (fun x => h2 x.2), if_neg (fun x => h2 x.2)]
  · rw [if_neg h, if_neg (fun x => h x.1), if_neg (fun x => h x.1)]

theorem object_both (k : Nat) (u1 u2 u3 u4 ov m0 m1 m2 m3 m4 : Int) (h : In u1 u2 u3 u4 ov m0 m1 m2 m3 m4) : ∃ n v1 v2 v3 v4 : Int, limit_Meter_Object.f 0 u1 u2 u3 u4 ov m0 m1 m2 m3 m4 = some (n, 0, v1, v2, v3, v4, n, m0, m1, m2, m3, m4) ∧
    deckleref19_Meter_Object.f (k + 1) m0 m1 m2 m3 m4 0 u1 u2 u3 u4 ov = some (n, m0, m1, m2, m3, m4, 0, v1, v2, v3, v4, n) ∧ In v1 v2 v3 v4 n m0 m1 m2 m3 m4 := by
  unfold In at h
  unfold limit_Meter_Object.f deckleref19_Meter_Object.f
  rw [cross_f _ _ _ _ _ _ _ _ _ _ _ 2 (by decide)]
  simp only [Option.bind_some, deckleref19_Meter_Object.j0]
  by_cases z : ov = 0
  · subst z
    by_cases c : u1 = m1
    · have e1 : (u1 == m1) = true := by simp [c]
      have e2 : decide (u1 ≥ m1) = true := decide_eq_true (by omega)
      simp only [e1, e2, and_self, if_true]
      rw [if_neg (by decide)]
      exact ⟨2, u1, u2, u3, u4, rfl, rfl, by unfold In; omega⟩
    · have e1 : (u1 == m1) = false := by simp [c]
      have e2 : decide (u1 ≥ m1) = false := decide_eq_false (by omega)
      simp only [e1, e2, Bool.false_eq_true, false_and, if_false, if_true, bne_self_eq_false]
      rw [w64 (by omega) (by omega)]
      exact ⟨0, u1 + 1, u2, u3, u4, rfl, rfl, by unfold In; omega⟩
  · have e : (ov != 0) = true := by simp [z]
    simp only [z, and_false, if_false, e, if_true, Bool.false_eq_true]
    exact ⟨ov, u1, u2, u3, u4, rfl, rfl, by unfold In; omega⟩
theorem node_both (u1 u2 u3 u4 ov m0 m1 m2 m3 m4 r d n : Int) (h : In u1 u2 u3 u4 ov m0 m1 m2 m3 m4) : ∃ q v1 v2 v3 v4 : Int, limit_Meter_Node.f 0 u1 u2 u3 u4 ov m0 m1 m2 m3 m4 r d n = some (q, 0, v1, v2, v3, v4, q, m0, m1, m2, m3, m4) ∧
    deckleref19_Meter_Node.f m0 m1 m2 m3 m4 0 u1 u2 u3 u4 ov r d n = some (q, m0, m1, m2, m3, m4, 0, v1, v2, v3, v4, q) ∧ In v1 v2 v3 v4 q m0 m1 m2 m3 m4 := by
  unfold In at h
  have hr := mx_pos r
  have hd := mx_pos d
  have hn := mx_pos n
  unfold limit_Meter_Node.f deckleref19_Meter_Node.f deckleref19_floor.f
  rw [cross_f _ _ _ _ _ _ _ _ _ _ _ 3 (by decide)]
  simp only [Option.bind_some]
  by_cases z : ov = 0
  case neg =>
    have hb : (ov != 0) = true := by simp [z]
    simp only [if_neg (fun x : decide (mx r 0 > m2) = true ∧ ov = 0 => z x.2), hb, if_true, if_neg z]
    exact ⟨ov, u1, u2, u3, u4, rfl, rfl, by unfold In; omega⟩
  subst z
  by_cases c1 : mx r 0 > m2
  · simp only [c1, decide_true, and_self, if_true]
    exact ⟨3, u1, u2, u3, u4, rfl, rfl, by unfold In; omega⟩
  simp only [c1, decide_false, Bool.false_eq_true, false_and, if_false, bne_self_eq_false]
  rw [cross_f _ _ _ _ _ _ _ _ _ _ _ 4 (by decide)]
  simp only [Option.bind_some]
  by_cases c2 : mx d 0 > m3
  · simp only [c2, decide_true, and_self, if_true]
    exact ⟨4, u1, u2, u3, u4, rfl, rfl, by unfold In; omega⟩
  simp only [c2, decide_false, Bool.false_eq_true, false_and, if_false, bne_self_eq_false]
  rw [cross_f _ _ _ _ _ _ _ _ _ _ _ 5 (by decide), w64 (n := m4 - u4) (by omega) (by omega)]
  simp only [Option.bind_some]
  by_cases c3 : mx n 0 > m4 - u4
  · simp only [c3, decide_true, and_self, if_true]
    exact ⟨5, u1, u2, u3, u4, rfl, rfl, by unfold In; omega⟩
  simp only [c3, decide_false, Bool.false_eq_true, false_and, if_false, bne_self_eq_false, if_true]
  rw [w64 (n := u4 + mx n 0) (by omega) (by omega)]
  have e2 : u2 ≤ mx u2 (mx r 0) ∧ mx u2 (mx r 0) ≤ m2 := by generalize mx r 0 = y at *; unfold mx; split <;> omega
  have e3 : u3 ≤ mx u3 (mx d 0) ∧ mx u3 (mx d 0) ≤ m3 := by generalize mx d 0 = y at *; unfold mx; split <;> omega
  exact ⟨0, u1, mx u2 (mx r 0), mx u3 (mx d 0), u4 + mx n 0, rfl, rfl, by unfold In; omega⟩
theorem nodes_both (l : List S31) (hl : l.length ≤ 1000) (m0 m1 m2 m3 m4 : Int) (d : Nat) : ∀ (K i : Nat) (u1 u2 u3 u4 ov : Int), i ≤ l.length → l.length - i = d → d + 1 ≤ K → In u1 u2 u3 u4 ov m0 m1 m2 m3 m4 →
    ∃ n v1 v2 v3 v4 q : Int, limit_Meter_Nodes.l0 K l (l.length : Int) (i : Int) 0 u1 u2 u3 u4 ov m0 m1 m2 m3 m4 = some (n, 0, v1, v2, v3, v4, q, m0, m1, m2, m3, m4) ∧
      deckleref19_Meter_Nodes.l0 K l (i : Int) m0 m1 m2 m3 m4 0 u1 u2 u3 u4 ov = some (n, m0, m1, m2, m3, m4, 0, v1, v2, v3, v4, q) := by
  induction d with
  | zero =>
    intro K i u1 u2 u3 u4 ov h1 h2 h3 hI
    obtain ⟨K, rfl⟩ : ∃ q, K = q + 1 := ⟨K - 1, by omega⟩
    have c : ¬ (i : Int) < l.length := by omega
    refine ⟨0, u1, u2, u3, u4, ov, ?_, ?_⟩
    · rw [limit_Meter_Nodes.l0, if_neg c]
    · rw [deckleref19_Meter_Nodes.l0, if_neg c]
  | succ d ih =>
    intro K i u1 u2 u3 u4 ov h1 h2 h3 hI
    obtain ⟨K, rfl⟩ : ∃ q, K = q + 1 := ⟨K - 1, by omega⟩
    have c : (i : Int) < l.length := by omega
    have c0 : (0 : Int) ≤ i := by omega
    have hw : wrap64 ((i : Int) + 1) = ((i + 1 : Nat) : Int) := by rw [w64 (by omega) (by omega)]; omega
    have g1 : i + 1 ≤ l.length := by omega
    have g2 : l.length - (i + 1) = d := by omega
    have g3 : d + 1 ≤ K := by omega
    rw [limit_Meter_Nodes.l0, if_pos c, if_pos c0, if_pos c, deckleref19_Meter_Nodes.l0, if_pos c, if_pos c0, hw]
    obtain ⟨q, v1, v2, v3, v4, e1, e2, hJ⟩ := node_both u1 u2 u3 u4 ov m0 m1 m2 m3 m4 (rd_T31 l i).f0 (rd_T31 l i).f1 (rd_T31 l i).f2 hI
    rw [e1, e2]
    simp only [Option.bind_some]
    by_cases z : q = 0
    · simp only [if_pos z]
      exact ih K (i + 1) v1 v2 v3 v4 q g1 g2 g3 hJ
    · simp only [if_neg z]
      exact ⟨q, v1, v2, v3, v4, q, rfl, rfl⟩
theorem ref_admits (a0 a1 a2 a3 a4 b0 b1 b2 b3 b4 : Int) : deckleref19_Admits.f a0 a1 a2 a3 a4 b0 b1 b2 b3 b4 = some (adm a0 a1 a2 a3 a4 b0 b1 b2 b3 b4) := by
  unfold deckleref19_Admits.f deckleref19_clean.f deckleref19_floor.f adm under
  simp only [Option.bind_some]
  by_cases h0 : mx b0 0 ≤ mx a0 0
  · by_cases h1 : mx b1 0 ≤ mx a1 0
    · by_cases h2 : mx b2 0 ≤ mx a2 0
      · by_cases h3 : mx b3 0 ≤ mx a3 0
        · simp [h0, h1, h2, h3]
        · simp [h0, h1, h2, h3]
      · simp [h0, h1, h2]
    · simp [h0, h1]
  · simp [h0]
theorem round (k : Nat) (l : List S33) (x : List S31) (i n a0 a1 a2 a3 a4 b0 b1 b2 b3 b4 v1 v2 v3 v4 m0 m1 m2 m3 m4 q0 q1 q2 q3 q4 q5 q6 q7 q8 q9 q10 : Int) :
    decklelaw19_LimitMeters.j1 (k + 1) l true x i n n a0 a1 a2 a3 a4 b0 b1 b2 b3 b4 0 v1 v2 v3 v4 n m0 m1 m2 m3 m4 m0 m1 m2 m3 m4 0 v1 v2 v3 v4 n q0 q1 q2 q3 q4 q5 q6 q7 q8 q9 q10 = decklelaw19_LimitMeters.l0 k l true x (wrap64 (i + 1)) a0 a1 a2 a3 a4 b0 b1 b2 b3 b4 0 v1 v2 v3 v4 n m0 m1 m2 m3 m4 m0 m1 m2 m3 m4 0 v1 v2 v3 v4 n q0 q1 q2 q3 q4 q5 q6 q7 q8 q9 q10 := by
  rw [decklelaw19_LimitMeters.j1, if_pos rfl]
  simp only [limit_tally_Used.f, limit_tally_Over.f, deckleref19_Meter_Used.f, deckleref19_Meter_Over.f, Option.bind_some, beq_self_eq_true, Bool.not_true, Bool.or_self, Bool.false_eq_true, if_false, if_true]
theorem meters_loop (l : List S33) (hl : l.length ≤ 100) (a0 a1 a2 a3 a4 b0 b1 b2 b3 b4 : Int) (q1 : mx a1 0 ≤ 9223372036854775807) (q4 : mx a4 0 ≤ 9223372036854775807) (d : Nat) : ∀ (K i : Nat) (x : List S31) (u1 u2 u3 u4 ov : Int), i ≤ l.length → l.length - i = d → 2 * d + 150 ≤ K → x.length ≤ i → In u1 u2 u3 u4 ov (mx a0 0) (mx a1 0) (mx a2 0) (mx a3 0) (mx a4 0) →
    decklelaw19_LimitMeters.l0 K l true x (i : Int) a0 a1 a2 a3 a4 b0 b1 b2 b3 b4 0 u1 u2 u3 u4 ov (mx a0 0) (mx a1 0) (mx a2 0) (mx a3 0) (mx a4 0) (mx a0 0) (mx a1 0) (mx a2 0) (mx a3 0) (mx a4 0) 0 u1 u2 u3 u4 ov 0 0 0 0 0 0 (mx a0 0) (mx a1 0) (mx a2 0) (mx a3 0) (mx a4 0) = some true := by
  induction d with
  | zero =>
    intro K i x u1 u2 u3 u4 ov h1 h2 h3 hx hI
    obtain ⟨K, rfl⟩ : ∃ q, K = q + 1 := ⟨K - 1, by omega⟩
    have c : ¬ (i : Int) < l.length := by omega
    have hx1 : x.length ≤ 1000 := by omega
    have hx2 : x.length + 1 ≤ K := by omega
    obtain ⟨n, v1, v2, v3, v4, q, e1, e2⟩ := nodes_both x hx1 (mx a0 0) (mx a1 0) (mx a2 0) (mx a3 0) (mx a4 0) x.length K 0 0 0 0 0 0 (Nat.zero_le _) rfl hx2 ⟨⟨Int.le_refl _, mx_pos a1⟩, ⟨Int.le_refl _, mx_pos a2⟩, ⟨Int.le_refl _, mx_pos a3⟩, ⟨Int.le_refl _, mx_pos a4⟩, .inl rfl, q1, q4, mx_pos a0⟩
    replace e1 : limit_Meter_Nodes.f K 0 0 0 0 0 0 (mx a0 0) (mx a1 0) (mx a2 0) (mx a3 0) (mx a4 0) x = some (n, 0, v1, v2, v3, v4, q, (mx a0 0), (mx a1 0), (mx a2 0), (mx a3 0), (mx a4 0)) := e1
    replace e2 : deckleref19_Meter_Nodes.f K (mx a0 0) (mx a1 0) (mx a2 0) (mx a3 0) (mx a4 0) 0 0 0 0 0 0 x = some (n, (mx a0 0), (mx a1 0), (mx a2 0), (mx a3 0), (mx a4 0), 0, v1, v2, v3, v4, q) := e2
    have e0 : deckleref19_New.f a0 a1 a2 a3 a4 = some (mx a0 0, mx a1 0, mx a2 0, mx a3 0, mx a4 0, 0, 0, 0, 0, 0, 0) := rfl
    rw [decklelaw19_LimitMeters.l0, if_neg c, e0, e1]
    simp only [Option.bind_some, if_true, e2, limit_tally_Used.f, limit_tally_Over.f, deckleref19_Meter_Used.f, deckleref19_Meter_Over.f, beq_self_eq_true, Bool.and_self, admits_eq, ref_admits]
  | succ d ih =>
    intro K i x u1 u2 u3 u4 ov h1 h2 h3 hx hI
    obtain ⟨K, rfl⟩ : ∃ q, K = q + 2 := ⟨K - 2, by omega⟩
    have c : (i : Int) < l.length := by omega
    have c0 : (0 : Int) ≤ i := by omega
    have hw : wrap64 ((i : Int) + 1) = ((i + 1 : Nat) : Int) := by rw [w64 (by omega) (by omega)]; omega
    have g1 : i + 1 ≤ l.length := by omega
    have g2 : l.length - (i + 1) = d := by omega
    have g3 : 2 * d + 150 ≤ K := by omega
    have g4 : x.length ≤ i + 1 := by omega
    have g5 : x.length < 5864062014805 := by omega
    rw [show K + 2 = (K + 1) + 1 from rfl, decklelaw19_LimitMeters.l0, if_pos c, if_pos c0]
    split
    · obtain ⟨n, v1, v2, v3, v4, e1, e2, hJ⟩ := object_both K u1 u2 u3 u4 ov _ _ _ _ _ hI
      rw [e1, e2]
      simp only [Option.bind_some]
      rw [round, hw]
      exact ih K (i + 1) x v1 v2 v3 v4 n g1 g2 g3 g4 hJ
    · obtain ⟨n, v1, v2, v3, v4, e1, e2, hJ⟩ := node_both u1 u2 u3 u4 ov _ _ _ _ _ (rd_T33 l i).f1.f0 (rd_T33 l i).f1.f1 (rd_T33 l i).f1.f2 hI
      rw [e1, e2]
      simp only [Option.bind_some, if_pos g5]
      rw [round, hw]
      exact ih K (i + 1) _ v1 v2 v3 v4 n g1 g2 g3 (by simp; omega) hJ
theorem LimitMetersK (K : Nat) (hK : 400 ≤ K) (a0 a1 a2 a3 a4 : Int) (w0 : (Lit.int .i64 a0).wf = true) (w1 : (Lit.int .i64 a1).wf = true) (w2 : (Lit.int .i64 a2).wf = true) (w3 : (Lit.int .i64 a3).wf = true) (w4 : (Lit.int .i64 a4).wf = true)
    (b0 b1 b2 b3 b4 : Int) (v0 : (Lit.int .i64 b0).wf = true) (v1 : (Lit.int .i64 b1).wf = true) (v2 : (Lit.int .i64 b2).wf = true) (v3 : (Lit.int .i64 b3).wf = true) (v4 : (Lit.int .i64 b4).wf = true) (l : List S33) : decklelaw19_LimitMeters.f K a0 a1 a2 a3 a4 b0 b1 b2 b3 b4 l = some true := by
  have q1 := mx_le a1 (int_of_wf w1).2
  have q4 := mx_le a4 (int_of_wf w4).2
  have e0 : deckleref19_New.f a0 a1 a2 a3 a4 = some (mx a0 0, mx a1 0, mx a2 0, mx a3 0, mx a4 0, 0, 0, 0, 0, 0, 0) := rfl
  have e1 : limit_New.f a0 a1 a2 a3 a4 = some (0, 0, 0, 0, 0, 0, mx a0 0, mx a1 0, mx a2 0, mx a3 0, mx a4 0) := rfl
  unfold decklelaw19_LimitMeters.f
  simp only [decklelaw19_small.f, Option.bind_some, e0, e1]
  by_cases c : (l.length : Int) > 100
  · rw [if_pos c]
  · rw [if_neg c]
    exact meters_loop l (by omega) a0 a1 a2 a3 a4 b0 b1 b2 b3 b4 q1 q4 l.length K 0 [] 0 0 0 0 0 (Nat.zero_le _) rfl (by omega) (Nat.le_refl _) ⟨⟨Int.le_refl _, mx_pos a1⟩, ⟨Int.le_refl _, mx_pos a2⟩, ⟨Int.le_refl _, mx_pos a3⟩, ⟨Int.le_refl _, mx_pos a4⟩, .inl rfl, q1, q4, mx_pos a0⟩
/-- What is answered, used, and crossed, call by call, and what limits admit, is as the document says. -/
theorem LimitMeters (a0 a1 a2 a3 a4 : Int) (w0 : (Lit.int .i64 a0).wf = true) (w1 : (Lit.int .i64 a1).wf = true) (w2 : (Lit.int .i64 a2).wf = true) (w3 : (Lit.int .i64 a3).wf = true) (w4 : (Lit.int .i64 a4).wf = true)
    (b0 b1 b2 b3 b4 : Int) (v0 : (Lit.int .i64 b0).wf = true) (v1 : (Lit.int .i64 b1).wf = true) (v2 : (Lit.int .i64 b2).wf = true) (v3 : (Lit.int .i64 b3).wf = true) (v4 : (Lit.int .i64 b4).wf = true) (l : List S33) : decklelaw19_LimitMeters.f 500 a0 a1 a2 a3 a4 b0 b1 b2 b3 b4 l = some true := LimitMetersK 500 (by decide) a0 a1 a2 a3 a4 w0 w1 w2 w3 w4 b0 b1 b2 b3 b4 v0 v1 v2 v3 v4 l
end Go.Proofs.Ytaonclkhjcbgoaa.Pure
