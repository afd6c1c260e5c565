import Derived.Test.YtaonclkhjcbgoaaHLimitEnoughx5
namespace Go.Proofs.Ytaonclkhjcbgoaa.Pure
open Go.RowKit Go.Proofs.Ytaonclkhjcbgoaa.HLimitEnough Go.Proofs.YtaonclkhjcbgoaaW.PrintWords Go.Proofs.YtaonclkhjcbgoaaW.PrintLast Go.Proofs.YtaonclkhjcbgoaaW.PrintMore
set_option linter.unusedVariables false

/-- No number that is used is above the limit's. -/
def under (x y : Int) : Bool := decide (mx y 0 ≤ mx x 0)
theorem mn_le (u v : Int) : (v == mn u v) = decide (v ≤ u) := by
  unfold mn
  by_cases h : v < u
  · rw [if_pos h, decide_eq_true (by omega)]; simp
  · rw [if_neg h]
    by_cases h2 : v = u
    · subst h2; simp
    · rw [decide_eq_false (by omega)]; simp; omega
def adm (a0 a1 a2 a3 a4 b0 b1 b2 b3 b4 : Int) : Bool := under a0 b0 && (under a1 b1 && (under a2 b2 && (under a3 b3 && under a4 b4)))
theorem admits_eq (a0 a1 a2 a3 a4 b0 b1 b2 b3 b4 : Int) : limit_Admits.f a0 a1 a2 a3 a4 b0 b1 b2 b3 b4 = some (adm a0 a1 a2 a3 a4 b0 b1 b2 b3 b4) := by
  unfold limit_Admits.f limit_fair.f adm under
  simp only [Option.bind_some, mn_le]
theorem adm_iff (a0 a1 a2 a3 a4 b0 b1 b2 b3 b4 : Int) : adm a0 a1 a2 a3 a4 b0 b1 b2 b3 b4 = true ↔ (mx b0 0 ≤ mx a0 0 ∧ mx b1 0 ≤ mx a1 0 ∧ mx b2 0 ≤ mx a2 0 ∧ mx b3 0 ≤ mx a3 0 ∧ mx b4 0 ≤ mx a4 0) := by
  unfold adm under
  simp only [Bool.and_eq_true, decide_eq_true_eq]
theorem mx_pos (x : Int) : 0 ≤ mx x 0 := by unfold mx; split <;> omega
theorem mx_of {x : Int} (h : 0 ≤ x) : mx x 0 = x := by unfold mx; rw [if_neg (by omega)]
theorem mn_pos (x : Int) (h : 0 ≤ x) : 0 ≤ mn x 1099511627776 := by unfold mn; split <;> omega

theorem w64 {n : Int} (h1 : -9223372036854775808 ≤ n) (h2 : n ≤ 9223372036854775807) : wrap64 n = n := by unfold wrap64; omega
theorem int_of_wf {x : Int} (h : (Lit.int .i64 x).wf = true) : -9223372036854775808 ≤ x ∧ x ≤ 9223372036854775807 := by
  have e0 : IntKind.i64.min = -9223372036854775808 := by decide
  have e1 : IntKind.i64.max = 9223372036854775807 := by decide
  simp only [Lit.wf, Bool.and_eq_true, decide_eq_true_eq, e0, e1] at h
  exact h
theorem mx_le (x : Int) (h : x ≤ 9223372036854775807) : mx x 0 ≤ 9223372036854775807 := by unfold mx; split <;> omega
/-- What is used stands between 0 and the limits. -/
def In (u1 u2 u3 u4 ov m0 m1 m2 m3 m4 : Int) : Prop := (0 ≤ u1 ∧ u1 ≤ m1) ∧ (0 ≤ u2 ∧ u2 ≤ m2) ∧ (0 ≤ u3 ∧ u3 ≤ m3) ∧ (0 ≤ u4 ∧ u4 ≤ m4) ∧ (ov = 0 ∨ ov = 2 ∨ ov = 3 ∨ ov = 4 ∨ ov = 5) ∧ m1 ≤ 9223372036854775807 ∧ m4 ≤ 9223372036854775807 ∧ 0 ≤ m0
theorem cross_f (u1 u2 u3 u4 ov m0 m1 m2 m3 m4 : Int) (b : Bool) (q : Int) (hq : q ≠ 0) : limit_tally_cross.f 0 u1 u2 u3 u4 ov m0 m1 m2 m3 m4 b q = some ((if b = true ∧ ov = 0 then true else (ov != 0)), 0, u1, u2, u3, u4, (if b = true ∧ ov = 0 then q else ov), m0, m1, m2, m3, m4) := by
  unfold limit_tally_cross.f
  by_cases h : b = true
  · rw [if_pos h]
    by_cases h2 : ov = 0
    · rw [if_pos h2, if_pos ⟨h, h2⟩, if_pos ⟨h, h2⟩]
      have : (q != 0) = true := by simpa using hq
      rw [this]
    · rw [if_neg h2, if_neg (fun x => h2 x.2), if_neg (fun x => h2 x.2)]
  · rw [if_neg h, if_neg (fun x => h x.1), if_neg (fun x => h x.1)]

abbrev R12 := Option (Int × Int × Int × Int × Int × Int × Int × Int × Int × Int × Int × Int)
theorem object_free (u1 m0 m1 m2 m3 m4 : Int) (h0 : 0 ≤ u1 ∧ u1 < m1 ∧ m1 ≤ 9223372036854775807) : limit_Meter_Object.f 0 u1 0 0 0 0 m0 m1 m2 m3 m4 = some (0, 0, u1 + 1, 0, 0, 0, 0, m0, m1, m2, m3, m4) := by
  unfold limit_Meter_Object.f
  rw [cross_f _ _ _ _ _ _ _ _ _ _ _ 2 (by decide)]
  have e : (u1 == m1) = false := by simp; omega
  simp only [Option.bind_some, e, Bool.false_eq_true, false_and, if_false, bne_self_eq_false]
  rw [w64 (by omega) (by omega)]
theorem object_full (u1 m0 m1 m2 m3 m4 : Int) (h0 : u1 = m1) : limit_Meter_Object.f 0 u1 0 0 0 0 m0 m1 m2 m3 m4 = some (2, 0, u1, 0, 0, 0, 2, m0, m1, m2, m3, m4) := by
  unfold limit_Meter_Object.f
  rw [cross_f _ _ _ _ _ _ _ _ _ _ _ 2 (by decide)]
  have e : (u1 == m1) = true := by simp; omega
  simp only [Option.bind_some, e, and_self, if_true]
theorem object_gone (u1 ov m0 m1 m2 m3 m4 : Int) (h : ov ≠ 0) : limit_Meter_Object.f 0 u1 0 0 0 ov m0 m1 m2 m3 m4 = some (ov, 0, u1, 0, 0, 0, ov, m0, m1, m2, m3, m4) := by
  unfold limit_Meter_Object.f
  rw [cross_f _ _ _ _ _ _ _ _ _ _ _ 2 (by decide)]
  have e : (ov != 0) = true := by simp [h]
  simp only [Option.bind_some, h, and_false, if_false, e, if_true]
theorem node_gone (u1 u2 u3 u4 ov m0 m1 m2 m3 m4 r d n : Int) (h : ov ≠ 0) : limit_Meter_Node.f 0 u1 u2 u3 u4 ov m0 m1 m2 m3 m4 r d n = some (ov, 0, u1, u2, u3, u4, ov, m0, m1, m2, m3, m4) := by
  unfold limit_Meter_Node.f
  rw [cross_f _ _ _ _ _ _ _ _ _ _ _ 3 (by decide)]
  have e : (ov != 0) = true := by simp [h]
  simp only [Option.bind_some, h, and_false, if_false, e, if_true]
theorem node_free (u1 u2 u3 u4 m0 m1 m2 m3 m4 r d n : Int) (h : In u1 u2 u3 u4 0 m0 m1 m2 m3 m4) (hr : 0 ≤ r) (hd : 0 ≤ d) (hn : 0 ≤ n) :
    (r ≤ m2 ∧ d ≤ m3 ∧ n ≤ m4 - u4 ∧ limit_Meter_Node.f 0 u1 u2 u3 u4 0 m0 m1 m2 m3 m4 r d n = some (0, 0, u1, mx u2 r, mx u3 d, u4 + n, 0, m0, m1, m2, m3, m4)) ∨
    ((r > m2 ∨ d > m3 ∨ n > m4 - u4) ∧ ∃ q : Int, q ≠ 0 ∧ limit_Meter_Node.f 0 u1 u2 u3 u4 0 m0 m1 m2 m3 m4 r d n = some (q, 0, u1, u2, u3, u4, q, m0, m1, m2, m3, m4)) := by
  unfold In at h
  unfold limit_Meter_Node.f
  rw [cross_f _ _ _ _ _ _ _ _ _ _ _ 3 (by decide), mx_of hr, mx_of hd, mx_of hn]
  simp only [Option.bind_some]
  by_cases c1 : r > m2
  · refine .inr ⟨.inl c1, 3, by decide, ?_⟩
    simp only [c1, decide_true, and_self, if_true]
  simp only [c1, decide_false, Bool.false_eq_true, false_and, if_false, bne_self_eq_false]
  rw [cross_f _ _ _ _ _ _ _ _ _ _ _ 4 (by decide)]
  simp only [Option.bind_some]
  by_cases c2 : d > m3
  · refine .inr ⟨.inr (.inl c2), 4, by decide, ?_⟩
    simp only [c2, decide_true, and_self, if_true]
  simp only [c2, decide_false, Bool.false_eq_true, false_and, if_false, bne_self_eq_false]
  rw [cross_f _ _ _ _ _ _ _ _ _ _ _ 5 (by decide), w64 (n := m4 - u4) (by omega) (by omega)]
  simp only [Option.bind_some]
  by_cases c3 : n > m4 - u4
  · refine .inr ⟨.inr (.inr c3), 5, by decide, ?_⟩
    simp only [c3, decide_true, and_self, if_true]
  simp only [c3, decide_false, Bool.false_eq_true, false_and, if_false, bne_self_eq_false]
  rw [w64 (n := u4 + n) (by omega) (by omega)]
  exact .inl ⟨by omega, by omega, by omega, rfl⟩
/-- A node with small numbers. -/
def Small (n : S31) : Prop := (0 ≤ n.f0 ∧ n.f0 ≤ 1000000) ∧ (0 ≤ n.f1 ∧ n.f1 ≤ 1000000) ∧ (0 ≤ n.f2 ∧ n.f2 ≤ 1000000)
instance (n : S31) : Decidable (Small n) := by unfold Small; infer_instance
def nr (l : List S31) : Nat → Int
  | 0 => 0
  | i + 1 => mx (nr l i) (rd_T31 l i).f0
def nd (l : List S31) : Nat → Int
  | 0 => 0
  | i + 1 => mx (nd l i) (rd_T31 l i).f1
def ne (l : List S31) : Nat → Int
  | 0 => 0
  | i + 1 => ne l i + (rd_T31 l i).f2
def AllSmall (l : List S31) (i : Nat) : Prop := ∀ j, j < i → Small (rd_T31 l (j : Int))
theorem mx_l (a b : Int) : a ≤ mx a b := by unfold mx; split <;> omega
theorem mx_r (a b : Int) : b ≤ mx a b := by unfold mx; split <;> omega
theorem mx_u {a b c : Int} (h : a ≤ c) (h2 : b ≤ c) : mx a b ≤ c := by unfold mx; split <;> omega
theorem nr_up (l : List S31) (i d : Nat) : nr l i ≤ nr l (i + d) := by
  induction d with
  | zero => exact Int.le_refl _
  | succ d ih => exact Int.le_trans ih (by show _ ≤ nr l (i + d + 1); simp only [nr]; exact mx_l _ _)
theorem nd_up (l : List S31) (i d : Nat) : nd l i ≤ nd l (i + d) := by
  induction d with
  | zero => exact Int.le_refl _
  | succ d ih => exact Int.le_trans ih (by show _ ≤ nd l (i + d + 1); simp only [nd]; exact mx_l _ _)
theorem ne_up (l : List S31) (i d : Nat) (h : AllSmall l (i + d)) : ne l i ≤ ne l (i + d) := by
  induction d with
  | zero => exact Int.le_refl _
  | succ d ih =>
    have := h (i + d) (by omega)
    unfold Small at this
    refine Int.le_trans (ih fun j hj => h j (by omega)) ?_
    show _ ≤ ne l (i + d + 1)
    simp only [ne]; omega
theorem nr0 (l : List S31) (i : Nat) : 0 ≤ nr l i := by have := nr_up l 0 i; simp only [Nat.zero_add] at this; exact this
theorem nd0 (l : List S31) (i : Nat) : 0 ≤ nd l i := by have := nd_up l 0 i; simp only [Nat.zero_add] at this; exact this
theorem ne0 (l : List S31) : ∀ i, AllSmall l i → 0 ≤ ne l i ∧ ne l i ≤ 1000000 * (i : Int)
  | 0, _ => by simp [ne]
  | i + 1, h => by
    have a := ne0 l i fun j hj => h j (by omega)
    have b := h i (by omega)
    unfold Small at b
    simp only [ne]; omega
/-- The nodes, one by one, from one on. -/
theorem nodes_loop (l : List S31) (hl : l.length ≤ 50) (hs : AllSmall l l.length) (u1 m0 m1 m2 m3 m4 : Int) (d : Nat) : ∀ (K i : Nat), i ≤ l.length → l.length - i = d → d + 1 ≤ K → In u1 (nr l i) (nd l i) (ne l i) 0 m0 m1 m2 m3 m4 →
    ∃ n v2 v3 v4 : Int, limit_Meter_Nodes.l0 K l (l.length : Int) (i : Int) 0 u1 (nr l i) (nd l i) (ne l i) 0 m0 m1 m2 m3 m4 = some (n, 0, u1, v2, v3, v4, n, m0, m1, m2, m3, m4) ∧
      ((n = 0 ∧ v2 = nr l l.length ∧ v3 = nd l l.length ∧ v4 = ne l l.length ∧ v2 ≤ m2 ∧ v3 ≤ m3 ∧ v4 ≤ m4) ∨ (n ≠ 0 ∧ (v2 ≤ m2 ∧ v3 ≤ m3 ∧ v4 ≤ m4) ∧ (nr l l.length > m2 ∨ nd l l.length > m3 ∨ ne l l.length > m4))) := by
  induction d with
  | zero =>
    intro K i h1 h2 h3 hI
    obtain ⟨K, rfl⟩ : ∃ q, K = q + 1 := ⟨K - 1, by omega⟩
    obtain rfl : i = l.length := by omega
    refine ⟨0, nr l l.length, nd l l.length, ne l l.length, ?_, .inl ?_⟩
    · simp only [limit_Meter_Nodes.l0]; rw [if_neg (by omega)]
    · unfold In at hI; refine ⟨rfl, rfl, rfl, rfl, by omega, by omega, by omega⟩
  | succ d ih =>
    intro K i h1 h2 h3 hI
    obtain ⟨K, rfl⟩ : ∃ q, K = q + 1 := ⟨K - 1, by omega⟩
    have hn := hs i (by omega)
    have hw : wrap64 ((i : Int) + 1) = ((i + 1 : Nat) : Int) := by rw [w64 (by omega) (by omega)]; omega
    unfold Small at hn
    simp only [limit_Meter_Nodes.l0]
    rw [if_pos (by omega), if_pos (by omega), if_pos (by omega)]
    have hE := ne_up l (i + 1) (l.length - (i + 1)) (by rw [show i + 1 + (l.length - (i + 1)) = l.length by omega]; exact hs)
    have hR := nr_up l (i + 1) (l.length - (i + 1))
    have hD := nd_up l (i + 1) (l.length - (i + 1))
    rw [show i + 1 + (l.length - (i + 1)) = l.length by omega] at hE hR hD
    rcases node_free u1 (nr l i) (nd l i) (ne l i) m0 m1 m2 m3 m4 _ _ _ hI hn.1.1 hn.2.1.1 hn.2.2.1 with ⟨c1, c2, c3, e⟩ | ⟨c, q, hq, e⟩
    · rw [e]
      simp only [Option.bind_some, if_true, hw]
      refine ih K (i + 1) (by omega) (by omega) (by omega) ?_
      unfold In at hI ⊢
      simp only [nr, nd, ne]
      have g1 := mx_l (nr l i) (rd_T31 l i).f0
      have g2 := mx_l (nd l i) (rd_T31 l i).f1
      exact ⟨hI.1, ⟨Int.le_trans hI.2.1.1 g1, mx_u hI.2.1.2 c1⟩, ⟨Int.le_trans hI.2.2.1.1 g2, mx_u hI.2.2.1.2 c2⟩, ⟨by omega, by omega⟩, by simp, hI.2.2.2.2.2⟩
    · rw [e]
      simp only [Option.bind_some, if_neg hq]
      unfold In at hI
      refine ⟨q, nr l i, nd l i, ne l i, rfl, .inr ⟨hq, by omega, ?_⟩⟩
      simp only [nr, nd, ne] at hE hR hD
      have := mx_r (nr l i) (rd_T31 l i).f0
      have := mx_r (nd l i) (rd_T31 l i).f1
      rcases c with c | c | c
      · exact .inl (by omega)
      · exact .inr (.inl (by omega))
      · exact .inr (.inr (by omega))
theorem nodes_gone (l : List S31) (K : Nat) (hK : 1 ≤ K) (u1 ov m0 m1 m2 m3 m4 : Int) (h : ov ≠ 0) : ∃ n : Int, limit_Meter_Nodes.l0 K l (l.length : Int) 0 0 u1 0 0 0 ov m0 m1 m2 m3 m4 = some (n, 0, u1, 0, 0, 0, ov, m0, m1, m2, m3, m4) := by
  obtain ⟨K, rfl⟩ : ∃ q, K = q + 1 := ⟨K - 1, by omega⟩
  simp only [limit_Meter_Nodes.l0]
  by_cases c : (0 : Int) < l.length
  · rw [if_pos c, if_pos (Int.le_refl 0), if_pos c, node_gone _ _ _ _ _ _ _ _ _ _ _ _ _ h]
    simp only [Option.bind_some, if_neg h]
    exact ⟨ov, rfl⟩
  · rw [if_neg c]
    exact ⟨0, rfl⟩
theorem bne_or {a b c d a' b' c' d' : Int} (h : ¬ (a = a' ∧ b = b' ∧ c = c' ∧ d = d')) (z : Bool) : (z || (!(a == a') || (!(b == b') || (!(c == c') || (!(d == d')))))) = true := by
  by_cases h1 : a = a'
  · by_cases h2 : b = b'
    · by_cases h3 : c = c'
      · have h4 : ¬ d = d' := fun e => h ⟨h1, h2, h3, e⟩
        simp [h4]
      · simp [h3]
    · simp [h2]
  · simp [h1]
/-- What is asked, and what was used, when all is done. -/
theorem l2_end (K : Nat) (l : List S31) (a0 a1 a2 a3 a4 o R D E n u1 v2 v3 v4 ov q0 q1 q2 q3 q4 u2 u3 u4 x12 j : Int) (hj : ¬ j < o) (t : Bool)
    (he : limit_Meter_Nodes.f K 0 u1 u2 u3 u4 x12 q0 q1 q2 q3 q4 l = some (n, 0, u1, v2, v3, v4, ov, q0, q1, q2, q3, q4)) (ha : limit_Admits.f a0 a1 a2 a3 a4 0 o R D E = some t)
    (h : (t = true ∧ x12 = 0 ∧ n = 0 ∧ ov = 0 ∧ u1 = o ∧ v2 = R ∧ v3 = D ∧ v4 = E) ∨ (t = false ∧ ov ≠ 0 ∧ ¬ (u1 = o ∧ v2 = R ∧ v3 = D ∧ v4 = E))) :
    decklelaw19_LimitEnough.l2 (K + 1) l o true x12 j a0 a1 a2 a3 a4 0 o R D E 0 u1 u2 u3 u4 x12 q0 q1 q2 q3 q4 = some true := by
  rw [decklelaw19_LimitEnough.l2, if_neg hj, he, ha]
  rcases h with ⟨rfl, rfl, rfl, rfl, rfl, rfl, rfl, rfl⟩ | ⟨rfl, h1, h2⟩
  · simp only [Option.bind_some, limit_tally_Used.f, limit_tally_Over.f, if_true, beq_self_eq_true, Bool.and_self]
  · simp only [Option.bind_some, limit_tally_Used.f, limit_tally_Over.f, if_true, Bool.false_eq_true, if_false, if_neg h1]
    exact congrArg some (bne_or h2 _)
theorem l2_loop (l : List S31) (hl : l.length ≤ 50) (hs : AllSmall l l.length) (a0 a1 a2 a3 a4 : Int) (q1 : mx a1 0 ≤ 9223372036854775807) (q4 : mx a4 0 ≤ 9223372036854775807) (o : Int) (ho : 0 ≤ o ∧ o ≤ 50) (d : Nat) : ∀ (K j : Nat) (u1 ov : Int), (j : Int) ≤ o → (o - j).toNat = d → d + 60 ≤ K → ((ov = 0 ∧ u1 = j ∧ (j : Int) ≤ mx a1 0) ∨ (ov = 2 ∧ u1 = mx a1 0 ∧ mx a1 0 < j)) →
    decklelaw19_LimitEnough.l2 K l o true ov (j : Int) a0 a1 a2 a3 a4 0 o (nr l l.length) (nd l l.length) (ne l l.length) 0 u1 0 0 0 ov (mx a0 0) (mx a1 0) (mx a2 0) (mx a3 0) (mx a4 0) = some true := by
  have p0 := mx_pos a0
  have p1 := mx_pos a1
  have p2 := mx_pos a2
  have p3 := mx_pos a3
  have p4 := mx_pos a4
  have z0 : mx 0 0 = 0 := by decide
  have hR := nr0 l l.length
  have hD := nd0 l l.length
  have hE := ne0 l l.length hs
  induction d with
  | zero =>
    intro K j u1 ov h1 h2 h3 hc
    obtain ⟨K, rfl⟩ : ∃ q, K = q + 1 := ⟨K - 1, by omega⟩
    have key : adm a0 a1 a2 a3 a4 0 o (nr l l.length) (nd l l.length) (ne l l.length) = true ↔ (o ≤ mx a1 0 ∧ nr l l.length ≤ mx a2 0 ∧ nd l l.length ≤ mx a3 0 ∧ ne l l.length ≤ mx a4 0) := by
      rw [adm_iff, z0, mx_of ho.1, mx_of hR, mx_of hD, mx_of hE.1]
      exact ⟨fun x => x.2, fun x => ⟨p0, x⟩⟩
    have oj : o = (j : Int) := by omega
    have hlt : ¬ (j : Int) < o := by omega
    generalize hA : adm a0 a1 a2 a3 a4 0 o (nr l l.length) (nd l l.length) (ne l l.length) = t at key
    have ha := (admits_eq a0 a1 a2 a3 a4 0 o (nr l l.length) (nd l l.length) (ne l l.length)).trans (congrArg some hA)
    rcases hc with ⟨e1, e2, hj⟩ | ⟨e1, e2, hj⟩
    · obtain ⟨n, v2, v3, v4, e, hn⟩ := nodes_loop l hl hs (j : Int) (mx a0 0) (mx a1 0) (mx a2 0) (mx a3 0) (mx a4 0) l.length K 0 (by omega) (by omega) (by omega) ⟨⟨by omega, hj⟩, ⟨Int.le_refl _, p2⟩, ⟨Int.le_refl _, p3⟩, ⟨Int.le_refl _, p4⟩, .inl rfl, q1, q4, p0⟩
      subst e1
      subst e2
      refine l2_end K l a0 a1 a2 a3 a4 o _ _ _ n (j : Int) v2 v3 v4 n _ _ _ _ _ 0 0 0 0 (j : Int) hlt t e ha ?_
      rcases hn with ⟨f1, f2, f3, f4, b2, b3, b4⟩ | ⟨hn0, hv, hx⟩
      · refine .inl ⟨key.2 ⟨by rw [oj]; exact hj, f2 ▸ b2, f3 ▸ b3, f4 ▸ b4⟩, rfl, f1, f1, oj.symm, f2, f3, f4⟩
      · refine .inr ⟨?_, hn0, fun x => ?_⟩
        · cases t with
          | false => rfl
          | true => have := key.1 rfl; omega
        · obtain ⟨_, f2, f3, f4⟩ := x; omega
    · obtain ⟨n, e⟩ := nodes_gone l K (by omega) (mx a1 0) 2 (mx a0 0) (mx a1 0) (mx a2 0) (mx a3 0) (mx a4 0) (by decide)
      subst e1
      subst e2
      refine l2_end K l a0 a1 a2 a3 a4 o _ _ _ n _ 0 0 0 2 _ _ _ _ _ 0 0 0 2 (j : Int) hlt t e ha (.inr ⟨?_, by decide, fun x => ?_⟩)
      · cases t with
        | false => rfl
        | true => have := key.1 rfl; omega
      · have := x.1; omega
  | succ d ih =>
    clear hR hD hE z0 p0 p2 p3 p4
    intro K j u1 ov h1 h2 h3 hc
    obtain ⟨K, rfl⟩ : ∃ q, K = q + 1 := ⟨K - 1, by omega⟩
    have hlt : (j : Int) < o := by omega
    have hw : wrap64 ((j : Int) + 1) = ((j + 1 : Nat) : Int) := by rw [w64 (by omega) (by omega)]; omega
    rw [decklelaw19_LimitEnough.l2, if_pos hlt, hw]
    clear hw
    have g1 : ((j + 1 : Nat) : Int) ≤ o := by omega
    have g2 : (o - ((j + 1 : Nat) : Int)).toNat = d := by omega
    have g3 : d + 60 ≤ K := by omega
    rcases hc with ⟨e1, e2, hj⟩ | ⟨e1, e2, hj⟩
    · subst e1
      subst e2
      by_cases c : (j : Int) = mx a1 0
      · rw [object_full _ _ _ _ _ _ c, Option.bind_some]
        exact ih K (j + 1) (j : Int) 2 g1 g2 g3 (.inr ⟨rfl, c, by omega⟩)
      · rw [object_free _ _ _ _ _ _ ⟨by omega, by omega, q1⟩, Option.bind_some]
        exact ih K (j + 1) ((j : Int) + 1) 0 g1 g2 g3 (.inl ⟨rfl, by omega, by omega⟩)
    · subst e1
      subst e2
      rw [object_gone _ _ _ _ _ _ _ (by decide), Option.bind_some]
      exact ih K (j + 1) (mx a1 0) 2 g1 g2 g3 (.inr ⟨rfl, rfl, by omega⟩)
theorem l1_at (K : Nat) (l : List S31) (o : Int) (i : Nat) (hi : i < l.length) (a0 a1 a2 a3 a4 b0 b1 b2 b3 b4 : Int) :
    decklelaw19_LimitEnough.l1 (K + 4) l o true (i : Int) 0 a0 a1 a2 a3 a4 b0 b1 b2 b3 b4 = if Small (rd_T31 l i) then decklelaw19_LimitEnough.l0 K l o true (wrap64 ((i : Int) + 1)) a0 a1 a2 a3 a4 b0 b1 (mx b2 (rd_T31 l i).f0) (mx b3 (rd_T31 l i).f1) (wrap64 (b4 + (rd_T31 l i).f2)) else some true := by
  have e0 : (0 : Int) ≤ i := by omega
  have e1 : (i : Int) < l.length := by omega
  have w1 : wrap64 (0 + 1) = 1 := (w64 (by omega) (by omega)).trans (by omega)
  have w2 : wrap64 (1 + 1) = 2 := (w64 (by omega) (by omega)).trans (by omega)
  have w3 : wrap64 (2 + 1) = 3 := (w64 (by omega) (by omega)).trans (by omega)
  rw [decklelaw19_LimitEnough.l1, if_pos (by decide), if_pos rfl, if_pos e0, if_pos e1, w1]
  by_cases c0 : (rd_T31 l i).f0 < 0
  · rw [if_pos c0, if_neg (fun h => by unfold Small at h; omega)]
  rw [if_neg c0]
  by_cases c1 : (rd_T31 l i).f0 > 1000000
  · rw [if_pos c1, if_neg (fun h => by unfold Small at h; omega)]
  rw [if_neg c1, decklelaw19_LimitEnough.l1, if_pos (by decide), if_neg (by decide), if_pos rfl, if_pos e0, if_pos e1, w2]
  by_cases c2 : (rd_T31 l i).f1 < 0
  · rw [if_pos c2, if_neg (fun h => by unfold Small at h; omega)]
  rw [if_neg c2]
  by_cases c3 : (rd_T31 l i).f1 > 1000000
  · rw [if_pos c3, if_neg (fun h => by unfold Small at h; omega)]
  rw [if_neg c3, decklelaw19_LimitEnough.l1, if_pos (by decide), if_neg (by decide), if_neg (by decide), if_pos rfl, if_pos e0, if_pos e1, w3]
  by_cases c4 : (rd_T31 l i).f2 < 0
  · rw [if_pos c4, if_neg (fun h => by unfold Small at h; omega)]
  rw [if_neg c4]
  by_cases c5 : (rd_T31 l i).f2 > 1000000
  · rw [if_pos c5, if_neg (fun h => by unfold Small at h; omega)]
  rw [if_neg c5, decklelaw19_LimitEnough.l1, if_neg (by decide), if_pos e0, if_pos e1, if_pos (by unfold Small; omega)]
theorem l0_loop (l : List S31) (hl : l.length ≤ 50) (a0 a1 a2 a3 a4 : Int) (q1 : mx a1 0 ≤ 9223372036854775807) (q4 : mx a4 0 ≤ 9223372036854775807) (o : Int) (ho : 0 ≤ o ∧ o ≤ 50) (d : Nat) : ∀ (K i : Nat), i ≤ l.length → l.length - i = d → 5 * d + 120 ≤ K → AllSmall l i →
    decklelaw19_LimitEnough.l0 K l o true (i : Int) a0 a1 a2 a3 a4 0 o (nr l i) (nd l i) (ne l i) = some true := by
  induction d with
  | zero =>
    intro K i h1 h2 h3 hs
    obtain ⟨K, rfl⟩ : ∃ q, K = q + 1 := ⟨K - 1, by omega⟩
    obtain rfl : i = l.length := by omega
    simp only [decklelaw19_LimitEnough.l0]
    rw [if_neg (by omega)]
    simp only [limit_New.f, limit_fair.f, Option.bind_some]
    exact l2_loop l hl hs a0 a1 a2 a3 a4 q1 q4 o ho o.toNat K 0 0 0 (by omega) (by omega) (by omega) (.inl ⟨rfl, rfl, mx_pos a1⟩)
  | succ d ih =>
    intro K i h1 h2 h3 hs
    obtain ⟨K, rfl⟩ : ∃ q, K = q + 5 := ⟨K - 5, by omega⟩
    have hw : wrap64 ((i : Int) + 1) = ((i + 1 : Nat) : Int) := by rw [w64 (by omega) (by omega)]; omega
    rw [show K + 5 = (K + 4) + 1 from rfl, decklelaw19_LimitEnough.l0, if_pos (by omega), l1_at K l o i (by omega)]
    by_cases c : Small (rd_T31 l i)
    · have hE := ne0 l i hs
      have c' := c
      unfold Small at c'
      rw [if_pos c, hw, w64 (by omega) (by omega)]
      exact ih K (i + 1) (by omega) (by omega) (by omega) fun j hj => by
        by_cases e : j = i
        · subst e; exact c
        · exact hs j (by omega)
    · rw [if_neg c]
/-- Limits that admit all that is asked are never crossed, and what is used then is all of it. -/
theorem LimitEnough (a0 a1 a2 a3 a4 : Int) (w0 : (Lit.int .i64 a0).wf = true) (w1 : (Lit.int .i64 a1).wf = true) (w2 : (Lit.int .i64 a2).wf = true) (w3 : (Lit.int .i64 a3).wf = true) (w4 : (Lit.int .i64 a4).wf = true) (l : List S31) (o : Int) : decklelaw19_LimitEnough.f 500 a0 a1 a2 a3 a4 l o = some true := by
  have q1 := mx_le a1 (int_of_wf w1).2
  have q4 := mx_le a4 (int_of_wf w4).2
  unfold decklelaw19_LimitEnough.f
  simp only [decklelaw19_small.f, Option.bind_some]
  have hj : ∀ b : Bool, (b = false → l.length ≤ 50 ∧ 0 ≤ o ∧ o ≤ 50) → decklelaw19_LimitEnough.j0 500 l o true b a0 a1 a2 a3 a4 = some true := by
    intro b hb
    rw [show 500 = 499 + 1 from rfl, decklelaw19_LimitEnough.j0]
    cases b with
    | true => rw [if_pos rfl]
    | false =>
      obtain ⟨x, y, z⟩ := hb rfl
      rw [if_neg (by decide)]
      exact l0_loop l x a0 a1 a2 a3 a4 q1 q4 o ⟨y, z⟩ l.length 499 0 (by omega) (by omega) (by omega) fun j hj => absurd hj (by omega)
  split
  · exact hj true (fun h => by cases h)
  · split
    · exact hj true (fun h => by cases h)
    · exact hj _ (fun h => by have := of_decide_eq_false h; omega)
end Go.Proofs.Ytaonclkhjcbgoaa.Pure
