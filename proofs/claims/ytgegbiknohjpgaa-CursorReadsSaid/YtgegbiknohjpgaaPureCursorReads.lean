import Derived.Test.YtgegbiknohjpgaaHCursorReadsx7
import Derived.KernelRfl
namespace Go.Proofs.Ytgegbiknohjpgaa.Pure
open Go.RowKit Go.Proofs.Ytgegbiknohjpgaa.HCursorReads Go.Proofs.YtgegbiknohjpgaaW.PrintWords Go.Proofs.YtgegbiknohjpgaaW.PrintLast Go.Proofs.YtgegbiknohjpgaaW.PrintMore
set_option linter.unusedVariables false
set_option linter.unusedSimpArgs false

/-! plain facts on numbers as bytes -/
theorem w64 {n : Int} (h1 : -9223372036854775808 ≤ n) (h2 : n ≤ 9223372036854775807) : wrap64 n = n := by unfold wrap64; omega
theorem u64w {n : Int} (h1 : 0 ≤ n) (h2 : n < 18446744073709551616) : IntKind.u64.wrap n = n := by rw [IntKind.wrap_u64]; omega
def isByte (x : Int) : Prop := 0 ≤ x ∧ x ≤ 255
def isU64 (x : Int) : Prop := 0 ≤ x ∧ x ≤ 18446744073709551615
theorem byte_of_wf (b : List Int) (h : ∀ x ∈ b, (Lit.int .u8 x).wf = true) : ∀ x ∈ b, isByte x := fun x hx => by
  have := h x hx
  have e0 : IntKind.u8.min = 0 := by decide
  have e1 : IntKind.u8.max = 255 := by decide
  simp only [Lit.wf, Bool.and_eq_true, decide_eq_true_eq, e0, e1] at this
  exact this
theorem u64_of_wf {x : Int} (h : (Lit.int .u64 x).wf = true) : isU64 x := by
  have e0 : IntKind.u64.min = 0 := by decide
  have e1 : IntKind.u64.max = 18446744073709551615 := by decide
  simp only [Lit.wf, Bool.and_eq_true, decide_eq_true_eq, e0, e1] at h
  exact h
theorem int_of_wf {x : Int} (h : (Lit.int .i64 x).wf = true) : -9223372036854775808 ≤ x ∧ x ≤ 9223372036854775807 := by
  have e0 : IntKind.i64.min = -9223372036854775808 := by decide
  have e1 : IntKind.i64.max = 9223372036854775807 := by decide
  simp only [Lit.wf, Bool.and_eq_true, decide_eq_true_eq, e0, e1] at h
  exact h
theorem rd_at (b : List Int) (m : Nat) (h : m < b.length) : rd b (m : Int) = b[m] := by
  unfold rd
  rw [List.getD_eq_getElem?_getD, Int.toNat_natCast, List.getElem?_eq_getElem h]; rfl

/-- a number's bytes -/
def enc (n : Nat) : List Int := if n < 128 then [(n : Int)] else ((n % 128 + 128 : Nat) : Int) :: enc (n / 128)
termination_by n
decreasing_by omega
theorem enc_small {n : Nat} (h : n < 128) : enc n = [(n : Int)] := by rw [enc, if_pos h]
theorem enc_big {n : Nat} (h : ¬ n < 128) : enc n = ((n % 128 + 128 : Nat) : Int) :: enc (n / 128) := by rw [enc, if_neg h]
theorem enc_pos (n : Nat) : 1 ≤ (enc n).length := by
  by_cases h : n < 128
  · rw [enc_small h]; simp
  · rw [enc_big h]; simp
theorem enc_bytes (n : Nat) : ∀ x ∈ enc n, isByte x := by
  induction n using Nat.strongRecOn with
  | _ n ih =>
    by_cases h : n < 128
    · rw [enc_small h]
      intro x hx
      rw [List.mem_singleton.1 hx]
      exact ⟨by omega, by omega⟩
    · rw [enc_big h]
      intro x hx
      rcases List.mem_cons.1 hx with rfl | hx
      · exact ⟨by omega, by omega⟩
      · exact ih (n / 128) (by omega) x hx
theorem enc_len (k : Nat) : ∀ n, n < 128 ^ (k + 1) → (enc n).length ≤ k + 1 := by
  induction k with
  | zero => intro n h; rw [enc_small (by simpa using h)]; simp
  | succ k ih =>
    intro n h
    by_cases c : n < 128
    · rw [enc_small c]; simp
    · rw [enc_big c, List.length_cons]
      have := ih (n / 128) (Nat.div_lt_of_lt_mul (by rw [Nat.pow_succ] at h; omega))
      omega
theorem enc_ten (n : Nat) (h : n < 18446744073709551616) : (enc n).length ≤ 10 := enc_len 9 n (Nat.lt_of_lt_of_le h (by decide))

/-- what is read: of the bytes that are left, behind k of them -/
def tk : List Int → Nat → Int → Int × Int × Int
  | [], _, _ => (0, 0, 2)
  | c :: r, k, acc => if (k = 9 ∧ c > 1) ∨ (k > 0 ∧ c = 0) then (0, 0, 3) else if c < 128 then (acc + c * 128 ^ k, (k : Int) + 1, 0) else tk r (k + 1) (acc + (c - 128) * 128 ^ k)

theorem tk_nil (k : Nat) (acc : Int) : tk [] k acc = (0, 0, 2) := rfl
theorem tk_cons (c : Int) (r : List Int) (k : Nat) (acc : Int) : tk (c :: r) k acc = if (k = 9 ∧ c > 1) ∨ (k > 0 ∧ c = 0) then (0, 0, 3) else if c < 128 then (acc + c * 128 ^ k, (k : Int) + 1, 0) else tk r (k + 1) (acc + (c - 128) * 128 ^ k) := rfl
theorem p9 : (128 : Int) ^ 9 = 9223372036854775808 := by decide

theorem pow_le9 (k : Nat) (h : k ≤ 8) : (128 : Int) ^ k * 128 ≤ 9223372036854775808 ∧ 1 ≤ (128 : Int) ^ k := by
  match k, h with
  | 0, _ => decide
  | 1, _ => decide
  | 2, _ => decide
  | 3, _ => decide
  | 4, _ => decide
  | 5, _ => decide
  | 6, _ => decide
  | 7, _ => decide
  | 8, _ => decide
theorem shl_pow (k : Nat) (h : k ≤ 9) (c : Int) (h0 : 0 ≤ c) (h1 : c * 128 ^ k < 18446744073709551616) : shl .u64 c (wrap64 (7 * (k : Int))) = c * 128 ^ k := by
  rw [w64 (by omega) (by omega)]
  unfold shl
  rw [show (7 * (k : Int)).toNat = 7 * k by omega, Nat.min_eq_left (by show 7 * k ≤ 64; omega)]
  have e : (2 : Int) ^ (7 * k) = 128 ^ k := by rw [Int.pow_mul]; rfl
  rw [e]
  exact u64w (Int.mul_nonneg h0 (Int.pow_nonneg (by decide))) h1
theorem andNot128 (c : Int) (h : isByte c) : Go.bits .andNot .u8 c 128 = c % 128 := by
  obtain ⟨n, rfl⟩ := Int.eq_ofNat_of_zero_le h.1
  have h2 := h.2
  have e := Go.u8_andNot_nat n 128 (by omega) (by omega)
  rw [show (255 - 128 : Nat) = 127 from rfl, Go.nat_mask7] at e
  rw [show (128 : Int) = ((128 : Nat) : Int) from rfl, e]; omega
theorem or_low (k : Nat) (h : k ≤ 9) (acc c : Int) (h0 : 0 ≤ acc) (h1 : acc < 128 ^ k) (h2 : 0 ≤ c) (h3 : acc + c * 128 ^ k < 18446744073709551616) : Go.bits .or .u64 acc (c * 128 ^ k) = acc + c * 128 ^ k := by
  obtain ⟨a, rfl⟩ := Int.eq_ofNat_of_zero_le h0
  obtain ⟨m, rfl⟩ := Int.eq_ofNat_of_zero_le h2
  have e1 : ((m : Int) * 128 ^ k) = ((m * 128 ^ k : Nat) : Int) := by push_cast; rfl
  rw [e1] at h3 ⊢
  have h4 : a < 128 ^ k := by exact_mod_cast h1
  have e := Go.u64_or_nat a (m * 128 ^ k) (by omega) (by omega)
  have e2 : (128 : Nat) ^ k = 2 ^ (7 * k) := by rw [Nat.pow_mul]
  rw [e, Nat.or_comm, Go.nat_join (7 * k) (m * 128 ^ k) a (by rw [e2]; exact Nat.mul_mod_left _ _) (by rw [← e2]; exact h4)]
  push_cast; omega

theorem take_loop (b : List Int) (hb : ∀ x ∈ b, isByte x) (hl : b.length ≤ 100000) (d : Nat) : ∀ (K m : Nat) (acc : Int), m ≤ 9 → m ≤ b.length → 9 - m = d → 3 * d + 4 ≤ K → 0 ≤ acc → acc < 128 ^ m →
    varint_Take.l0 K acc b (b.length : Int) (m : Int) = some (tk (b.drop m) m acc) := by
  induction d with
  | zero =>
    intro K m acc h9 hm hd hK h0 h1
    have e9 : m = 9 := by omega
    subst e9
    obtain ⟨K, rfl⟩ : ∃ q, K = q + 3 := ⟨K - 3, by omega⟩
    simp only [varint_Take.l0]
    by_cases c : (9 : Nat) < b.length
    · have hc := hb _ (List.getElem_mem c)
      rw [if_pos (by omega), if_pos (by omega), if_pos (by omega), if_pos (by omega), rd_at b 9 c, List.drop_eq_getElem_cons c]
      rw [tk_cons]
      by_cases g : b[9] > 1
      · rw [decide_eq_true g]
        simp only [varint_Take.j1, varint_Take.j2, if_true]
        rw [if_pos (.inl ⟨trivial, g⟩)]
      · rw [decide_eq_false g]
        simp only [varint_Take.j1]
        rw [if_neg (by simp), if_pos (by omega)]
        unfold isByte at hc
        by_cases z : b[9] = 0
        · simp only [varint_Take.j2, z]
          rw [if_pos (by simp), if_pos (.inr ⟨by omega, trivial⟩)]
        · have e1 : b[9] = 1 := by omega
          simp only [varint_Take.j2, e1]
          have hp9 := p9
          rw [if_neg (by simp), if_pos (by rw [w64 (by omega) (by omega)]; omega), if_pos (by decide), if_neg (by omega), if_pos (by decide), andNot128 1 ⟨by decide, by decide⟩, show IntKind.u64.wrap (1 % 128) = 1 from by decide,
            shl_pow 9 (by omega) 1 (by decide) (by omega), or_low 9 (by omega) acc 1 h0 h1 (by decide) (by omega), w64 (by omega) (by omega)]
    · rw [if_neg (by omega), List.drop_eq_nil_of_le (by omega)]
      simp [tk]
  | succ d ih =>
    intro K m acc h9 hm hd hK h0 h1
    obtain ⟨K, rfl⟩ : ∃ q, K = q + 3 := ⟨K - 3, by omega⟩
    have hp := pow_le9 m (by omega)
    simp only [varint_Take.l0]
    by_cases c : m < b.length
    · have hc := hb _ (List.getElem_mem c)
      unfold isByte at hc
      have hw : wrap64 ((m : Int) + 1) = ((m + 1 : Nat) : Int) := by rw [w64 (by omega) (by omega)]; omega
      rw [if_pos (by omega), if_pos (by omega), if_pos (by omega), if_neg (by omega), rd_at b m c, List.drop_eq_getElem_cons c]
      simp only [varint_Take.j1]
      rw [tk_cons]
      rw [if_neg (by simp)]
      by_cases z : m > 0 ∧ b[m] = 0
      · rw [if_pos (by omega), z.2]
        simp only [varint_Take.j2]
        rw [if_pos (by simp), if_pos (.inr ⟨z.1, trivial⟩)]
      · have hno : ¬ ((m = 9 ∧ b[m] > 1) ∨ (m > 0 ∧ b[m] = 0)) := by omega
        rw [if_neg hno]
        have hj : (if (m : Int) > 0 then varint_Take.j2 (K + 1) acc (m : Int) b[m] b (b.length : Int) (m : Int) (b[m] == 0) else varint_Take.j2 (K + 1) acc (m : Int) b[m] b (b.length : Int) (m : Int) false) = varint_Take.j2 (K + 1) acc (m : Int) b[m] b (b.length : Int) (m : Int) false := by
          by_cases q : (m : Int) > 0
          · rw [if_pos q, show (b[m] == 0) = false from by simp; omega]
          · rw [if_neg q]
        rw [hj]
        have hcm : b[m] % 128 * 128 ^ m ≤ 127 * 128 ^ m := Int.mul_le_mul_of_nonneg_right (by omega) (by omega)
        have hcn : 0 ≤ b[m] % 128 * 128 ^ m := Int.mul_nonneg (by omega) (by omega)
        simp only [varint_Take.j2]
        rw [if_neg (by simp), if_pos (by rw [w64 (by omega) (by omega)]; omega), andNot128 _ hc, u64w (by omega) (by omega), shl_pow m (by omega) _ (by omega) (by omega), or_low m (by omega) acc _ h0 h1 (by omega) (by omega), hw]
        by_cases l : b[m] < 128
        · rw [if_pos l, if_pos l, show b[m] % 128 = b[m] by omega]
          congr 2
        · rw [if_neg l, if_neg l]
          have hq : b[m] % 128 = b[m] - 128 := by omega
          have ep : (128 : Int) ^ (m + 1) = 128 ^ m * 128 := Int.pow_succ _ _
          rw [ih K (m + 1) _ (by omega) (by omega) (by omega) (by omega) (by omega) (by rw [ep]; omega), hq]
    · rw [if_neg (by omega), List.drop_eq_nil_of_le (by omega)]
      simp [tk]
theorem take_eq (b : List Int) (hb : ∀ x ∈ b, isByte x) (hl : b.length ≤ 100000) (K : Nat) (hK : 40 ≤ K) : varint_Take.f K b = some (tk b 0 0) := by
  unfold varint_Take.f
  have := take_loop b hb hl 9 K 0 0 (by omega) (by omega) (by omega) (by omega) (by omega) (by decide)
  simpa using this

theorem tk_err (b : List Int) : ∀ (k : Nat) (acc : Int), (tk b k acc).2.2 = 0 ∨ tk b k acc = (0, 0, 2) ∨ tk b k acc = (0, 0, 3) := by
  induction b with
  | nil => intro k acc; exact .inr (.inl rfl)
  | cons c r ih =>
    intro k acc
    rw [tk_cons]
    split
    · exact .inr (.inr rfl)
    · split
      · exact .inl rfl
      · exact ih _ _
/-- 2^64 is a multiple of 128^(k+1) -/
theorem le8 {P : Nat → Prop} (h0 : P 0) (h1 : P 1) (h2 : P 2) (h3 : P 3) (h4 : P 4) (h5 : P 5) (h6 : P 6) (h7 : P 7) (h8 : P 8) (k : Nat) (hk : k ≤ 8) : P k := by
  match k, hk with
  | 0, _ => exact h0
  | 1, _ => exact h1
  | 2, _ => exact h2
  | 3, _ => exact h3
  | 4, _ => exact h4
  | 5, _ => exact h5
  | 6, _ => exact h6
  | 7, _ => exact h7
  | 8, _ => exact h8
theorem mult_lt (v : Nat) (k : Nat) (hk : k ≤ 8) (h : (v : Int) * (128 ^ k * 128) < 18446744073709551616) : (v : Int) * (128 ^ k * 128) + 128 ^ k * 128 ≤ 18446744073709551616 := by
  revert h
  refine le8 (P := fun k => (v : Int) * (128 ^ k * 128) < 18446744073709551616 → (v : Int) * (128 ^ k * 128) + 128 ^ k * 128 ≤ 18446744073709551616) ?_ ?_ ?_ ?_ ?_ ?_ ?_ ?_ ?_ k hk
  · intro h; rw [show (128 : Int) ^ 0 * 128 = 128 by decide] at h ⊢; omega
  · intro h; rw [show (128 : Int) ^ 1 * 128 = 16384 by decide] at h ⊢; omega
  · intro h; rw [show (128 : Int) ^ 2 * 128 = 2097152 by decide] at h ⊢; omega
  · intro h; rw [show (128 : Int) ^ 3 * 128 = 268435456 by decide] at h ⊢; omega
  · intro h; rw [show (128 : Int) ^ 4 * 128 = 34359738368 by decide] at h ⊢; omega
  · intro h; rw [show (128 : Int) ^ 5 * 128 = 4398046511104 by decide] at h ⊢; omega
  · intro h; rw [show (128 : Int) ^ 6 * 128 = 562949953421312 by decide] at h ⊢; omega
  · intro h; rw [show (128 : Int) ^ 7 * 128 = 72057594037927936 by decide] at h ⊢; omega
  · intro h; rw [show (128 : Int) ^ 8 * 128 = 9223372036854775808 by decide] at h ⊢; omega
/-- what is read was laid -/
theorem tk_was (b : List Int) (hb : ∀ x ∈ b, isByte x) : ∀ (k : Nat) (acc : Int), k ≤ 9 → (tk b k acc).2.2 = 0 →
    ∃ v : Nat, tk b k acc = (acc + v * 128 ^ k, (k : Int) + (enc v).length, 0) ∧ b.take (enc v).length = enc v ∧ (enc v).length ≤ b.length ∧ (0 < k → 0 < v) ∧ (v : Int) * 128 ^ k < 18446744073709551616 ∧
      ∀ i, i < (enc v).length → ∀ acc', tk (b.take i) k acc' = (0, 0, 2) := by
  induction b with
  | nil => intro k acc _ h; exact absurd h (by simp [tk_nil])
  | cons c r ih =>
    intro k acc hk h
    have hc := hb c (by simp)
    unfold isByte at hc
    rw [tk_cons] at h
    rw [tk_cons]
    split at h
    · exact absurd h (by simp)
    · rename_i h1
      rw [if_neg h1]
      split at h
      · rename_i h2
        rw [if_pos h2]
        have e : c = ((c.toNat : Nat) : Int) := by omega
        have es : enc c.toNat = [c] := by rw [enc_small (by omega), ← e]
        refine ⟨c.toNat, ?_, ?_, ?_, ?_, ?_, ?_⟩
        · rw [es, ← e]; rfl
        · rw [es]; rfl
        · rw [es]; simp
        · omega
        · rw [← e]
          by_cases k9 : k = 9
          · subst k9
            have e9 : (128 : Int) ^ 9 = 9223372036854775808 := by decide
            rw [e9]; omega
          · have hp := pow_le9 k (by omega)
            have hm : c * 128 ^ k ≤ 127 * 128 ^ k := Int.mul_le_mul_of_nonneg_right (by omega) (by omega)
            omega
        · intro i hi acc'
          rw [es] at hi
          have : i = 0 := by simpa using hi
          subst this; rfl
      · rename_i h2
        rw [if_neg h2]
        obtain ⟨v, g1, g2, g3, g4, g5, g6⟩ := ih (fun x hx => hb x (by simp [hx])) (k + 1) _ (by omega) h
        have hv := g4 (by omega)
        have ev : (c.toNat - 128 + 128 * v) / 128 = v := by omega
        have em : (c.toNat - 128 + 128 * v) % 128 = c.toNat - 128 := by omega
        have eb : enc (c.toNat - 128 + 128 * v) = c :: enc v := by
          rw [enc_big (by omega), ev, em]
          congr 1; omega
        have ep : (128 : Int) ^ (k + 1) = 128 ^ k * 128 := Int.pow_succ _ _
        have en : ((c.toNat - 128 + 128 * v : Nat) : Int) * 128 ^ k = (c - 128) * 128 ^ k + (v : Int) * 128 ^ (k + 1) := by
          have e0 : ((c.toNat - 128 + 128 * v : Nat) : Int) = (c - 128) + (v : Int) * 128 := by omega
          rw [e0, Int.add_mul, ep, Int.mul_assoc, Int.mul_comm 128 (128 ^ k)]
        refine ⟨c.toNat - 128 + 128 * v, ?_, ?_, ?_, ?_, ?_, ?_⟩
        · rw [g1, eb, en]
          simp only [List.length_cons, Prod.mk.injEq, and_true]
          exact ⟨by omega, by push_cast; omega⟩
        · rw [eb, List.length_cons, List.take_succ_cons, g2]
        · rw [eb]; simp only [List.length_cons]; omega
        · omega
        · rw [en]
          by_cases k9 : k = 9
          · omega
          · have hp := pow_le9 k (by omega)
            rw [ep] at g5 ⊢
            have hm : (c - 128) * 128 ^ k ≤ 127 * 128 ^ k := Int.mul_le_mul_of_nonneg_right (by omega) (by omega)
            have key := mult_lt v k (by omega) g5
            omega
        · intro i hi acc'
          rw [eb, List.length_cons] at hi
          cases i with
          | zero => rfl
          | succ i =>
            rw [List.take_succ_cons]
            rw [tk_cons]
            rw [if_neg h1, if_neg h2]
            exact g6 i (by omega) _
theorem xor_ones (a : Nat) (h : a < 18446744073709551616) : a ^^^ 18446744073709551615 = 18446744073709551615 - a := by
  have e := BitVec.toNat_not (x := BitVec.ofNat 64 a)
  rw [BitVec.not_def, BitVec.toNat_xor, BitVec.toNat_allOnes, BitVec.toNat_ofNat, Nat.mod_eq_of_lt (by simpa using h)] at e
  rw [Nat.xor_comm]
  simpa using e
theorem xor_i64 (x y : Int) (a b : Nat) (ha : a < 18446744073709551616) (hb : b < 18446744073709551616) (hx : BitVec.ofInt 64 x = BitVec.ofNat 64 a) (hy : BitVec.ofInt 64 y = BitVec.ofNat 64 b) : Go.bits .xor .i64 x y = IntKind.i64.wrap ((a ^^^ b : Nat) : Int) := by
  unfold Go.bits
  have e : IntKind.i64.bits = 64 := rfl
  rw [e, hx, hy]
  simp only []
  rw [BitVec.toNat_xor, BitVec.toNat_ofNat, BitVec.toNat_ofNat, Nat.mod_eq_of_lt (by simpa using ha), Nat.mod_eq_of_lt (by simpa using hb)]
theorem zag_eq (u : Int) (h : isU64 u) : varint_Zag.f u = some (if u % 2 = 0 then u / 2 else -(u / 2) - 1) := by
  unfold isU64 at h
  unfold varint_Zag.f
  congr 1
  obtain ⟨n, rfl⟩ := Int.eq_ofNat_of_zero_le h.1
  have e := Go.u64_and_nat n 1 (by omega) (by omega)
  rw [Go.nat_mask1] at e
  rw [show (1 : Int) = ((1 : Nat) : Int) from rfl, e, w64 (n := (n : Int) / 2) (by omega) (by omega)]
  have hx : BitVec.ofInt 64 ((n : Int) / 2) = BitVec.ofNat 64 (n / 2) := by rw [show (n : Int) / 2 = ((n / 2 : Nat) : Int) by omega, BitVec.ofInt_natCast]
  rcases Nat.mod_two_eq_zero_or_one n with c | c
  · rw [c, show wrap64 (-wrap64 ((0 : Nat) : Int)) = 0 from by unfold wrap64; omega, xor_i64 _ 0 (n / 2) 0 (by omega) (by omega) hx rfl, Nat.xor_zero, if_pos (by omega)]
    rw [IntKind.wrap_i64]; omega
  · rw [c, show wrap64 (-wrap64 ((1 : Nat) : Int)) = -1 from by unfold wrap64; omega, xor_i64 _ (-1) (n / 2) 18446744073709551615 (by omega) (by omega) hx rfl, xor_ones (n / 2) (by omega), if_neg (by omega)]
    rw [IntKind.wrap_i64]; omega
theorem refzag_eq (u : Int) (h : isU64 u) : deckleref03_Zag.f u = some (if u % 2 = 0 then u / 2 else -(u / 2) - 1) := by
  unfold isU64 at h
  unfold deckleref03_Zag.f
  rw [Int.tmod_eq_emod_of_nonneg (by omega), Int.tdiv_eq_ediv_of_nonneg (by omega), u64w (n := u / 2) (by omega) (by omega), w64 (n := u / 2) (by omega) (by omega)]
  by_cases c : u % 2 = 0
  · rw [if_pos c, if_pos c]
  · rw [if_neg c, if_neg c, w64 (n := -(u / 2)) (by omega) (by omega), w64 (by omega) (by omega)]
theorem reftake_loop (b : List Int) (hb : ∀ x ∈ b, isByte x) (hl : b.length ≤ 100000) (d : Nat) : ∀ (K m : Nat) (acc : Int), m ≤ 9 → m ≤ b.length → 9 - m = d → 2 * d + 4 ≤ K → 0 ≤ acc → acc < 128 ^ m →
    deckleref03_Take.l0 K b acc (128 ^ m) (m : Int) = some (tk (b.drop m) m acc) := by
  induction d with
  | zero =>
    intro K m acc h9 hm hd hK h0 h1
    have e9 : m = 9 := by omega
    subst e9
    have hp9 := p9
    obtain ⟨K, rfl⟩ : ∃ q, K = q + 2 := ⟨K - 2, by omega⟩
    simp only [deckleref03_Take.l0]
    rw [if_pos (by decide)]
    by_cases c : (9 : Nat) < b.length
    · have hc := hb _ (List.getElem_mem c)
      unfold isByte at hc
      rw [if_neg (by omega), if_pos (by decide), if_pos (by decide), if_pos (by omega), rd_at b 9 c, List.drop_eq_getElem_cons c]
      rw [tk_cons]
      by_cases g : b[9] > 1
      · rw [if_pos g, if_pos (.inl ⟨rfl, g⟩)]
        simp only [deckleref03_Take.j1]
        rw [if_pos trivial]
      · rw [if_neg g, if_pos (by decide)]
        by_cases z : b[9] = 0
        · simp only [deckleref03_Take.j1, z]
          rw [if_pos (by simp), if_pos (.inr ⟨by omega, trivial⟩)]
        · have e1 : b[9] = 1 := by omega
          simp only [deckleref03_Take.j1]
          rw [rd_at b 9 c, e1]
          rw [if_neg (by simp), if_pos (by decide), if_pos (by omega), if_pos (by decide), if_neg (by omega), if_pos (by decide), show IntKind.u64.wrap (Int.tmod 1 128) = 1 from by decide, p9, u64w (n := 1 * 9223372036854775808) (by decide) (by decide), u64w (by omega) (by omega), w64 (by omega) (by omega)]
    · rw [if_pos (by omega), List.drop_eq_nil_of_le (by omega)]
      simp [tk]
  | succ d ih =>
    intro K m acc h9 hm hd hK h0 h1
    obtain ⟨K, rfl⟩ : ∃ q, K = q + 2 := ⟨K - 2, by omega⟩
    have hp := pow_le9 m (by omega)
    simp only [deckleref03_Take.l0]
    rw [if_pos (by omega)]
    by_cases c : m < b.length
    · have hc := hb _ (List.getElem_mem c)
      unfold isByte at hc
      have hw : wrap64 ((m : Int) + 1) = ((m + 1 : Nat) : Int) := by rw [w64 (by omega) (by omega)]; omega
      rw [if_neg (by omega), if_neg (by omega), rd_at b m c, List.drop_eq_getElem_cons c]
      rw [tk_cons]
      by_cases z : m > 0 ∧ b[m] = 0
      · rw [if_pos (by omega), if_pos (by omega), if_pos (by omega), z.2, if_pos (.inr ⟨z.1, rfl⟩)]
        simp only [deckleref03_Take.j1]
        rw [if_pos (by simp)]
      · have hno : ¬ ((m = 9 ∧ b[m] > 1) ∨ (m > 0 ∧ b[m] = 0)) := by omega
        rw [if_neg hno]
        have hj : (if (m : Int) > 0 then (if 0 ≤ (m : Int) then (if (m : Int) < (b.length : Int) then deckleref03_Take.j1 (K + 1) b acc (128 ^ m) (m : Int) (b[m] == 0) else none) else none) else deckleref03_Take.j1 (K + 1) b acc (128 ^ m) (m : Int) false) = deckleref03_Take.j1 (K + 1) b acc (128 ^ m) (m : Int) false := by
          by_cases q : (m : Int) > 0
          · rw [if_pos q, if_pos (by omega), if_pos (by omega), show (b[m] == 0) = false from by simp; omega]
          · rw [if_neg q]
        rw [hj]
        have hcm : b[m] % 128 * 128 ^ m ≤ 127 * 128 ^ m := Int.mul_le_mul_of_nonneg_right (by omega) (by omega)
        have hcn : 0 ≤ b[m] % 128 * 128 ^ m := Int.mul_nonneg (by omega) (by omega)
        simp only [deckleref03_Take.j1]
        rw [if_neg (by simp), if_pos (by omega), if_pos (by omega), rd_at b m c, Int.tmod_eq_emod_of_nonneg (by omega), u64w (n := b[m] % 128) (by omega) (by omega), u64w (n := b[m] % 128 * 128 ^ m) (by omega) (by omega), u64w (n := acc + b[m] % 128 * 128 ^ m) (by omega) (by omega), hw]
        by_cases l : b[m] < 128
        · rw [if_pos l, if_pos l, show b[m] % 128 = b[m] by omega]
          congr 1
        · rw [if_neg l, if_neg l]
          have hq : b[m] % 128 = b[m] - 128 := by omega
          have ep : (128 : Int) ^ (m + 1) = 128 ^ m * 128 := Int.pow_succ _ _
          rw [u64w (n := 128 ^ m * 128) (by omega) (by omega), ← ep, ih K (m + 1) _ (by omega) (by omega) (by omega) (by omega) (by omega) (by rw [ep]; omega), hq]
    · rw [if_pos (by omega), List.drop_eq_nil_of_le (by omega)]
      simp [tk]
theorem reftake_eq (b : List Int) (hb : ∀ x ∈ b, isByte x) (hl : b.length ≤ 100000) (K : Nat) (hK : 40 ≤ K) : deckleref03_Take.f K b = some (tk b 0 0) := by
  unfold deckleref03_Take.f
  have := reftake_loop b hb hl 9 K 0 0 (by omega) (by omega) (by omega) (by omega) (by omega) (by decide)
  simpa using this
theorem clone_f (l : List Int) (h : l.length < 140737488355328) : slices_Clone_byte_byte.f l = some l := by
  unfold slices_Clone_byte_byte.f
  simp only [Option.bind_some, List.length_nil, List.nil_append]
  rw [if_pos (by omega)]
theorem take_nil (k : Nat) : varint_Take.f (k + 1) [] = some (0, 0, 2) := rfl
theorem small_true : decklelaw04_small.f 400 = some true := by kernel_rfl

/-- Bytes, not too many. -/
def Ok (l : List Int) : Prop := (∀ x ∈ l, isByte x) ∧ l.length ≤ 500
theorem Ok.drop {l : List Int} (h : Ok l) (n : Nat) : Ok (l.drop n) := ⟨fun x hx => h.1 x (List.mem_of_mem_drop hx), by rw [List.length_drop]; have := h.2; omega⟩
theorem Ok.nil : Ok [] := ⟨by simp, by simp⟩
theorem pfail (at_ e z fa : Int) (l : List Int) (x : Int) (hx : x ≠ 0) : cursor_Cursor_Fail.f at_ e z fa l x = some (at_, (if e = 0 then x else e), (if e = 0 then 0 else z), (if e = 0 then at_ else fa), []) := by
  unfold cursor_Cursor_Fail.f cursor_place_note.f
  rw [if_neg hx]
  by_cases h : e = 0
  · simp only [if_pos h, Option.bind_some]
  · simp only [if_neg h, Option.bind_some]
theorem rfail (at_ e z fa : Int) (l : List Int) (x : Int) (hx : x ≠ 0) : deckleref04_Cursor_Fail.f l at_ e z fa x = some ([], at_, (if e = 0 then x else e), (if e = 0 then 0 else z), (if e = 0 then at_ else fa)) := by
  unfold deckleref04_Cursor_Fail.f
  rw [if_neg hx]
  by_cases h : e = 0
  · simp only [if_pos h]
  · simp only [if_neg h]
theorem fail_both (at_ e z fa : Int) (l : List Int) (hl : Ok l) (x : Int) : ∃ (a' e' z' f' : Int) (l' : List Int), cursor_Cursor_Fail.f at_ e z fa l x = some (a', e', z', f', l') ∧ deckleref04_Cursor_Fail.f l at_ e z fa x = some (l', a', e', z', f') ∧ Ok l' := by
  by_cases hx : x = 0
  · subst hx
    exact ⟨at_, e, z, fa, l, by unfold cursor_Cursor_Fail.f; rw [if_pos rfl], by unfold deckleref04_Cursor_Fail.f; rw [if_pos rfl], hl⟩
  · exact ⟨_, _, _, _, _, pfail at_ e z fa l x hx, rfail at_ e z fa l x hx, Ok.nil⟩
theorem take_both (at_ e z fa : Int) (l : List Int) (hl : Ok l) (n : Int) : ∃ (r : List Int) (a' e' z' f' : Int) (l' : List Int), cursor_Cursor_Take.f at_ e z fa l n = some (r, a', e', z', f', l') ∧ deckleref04_Cursor_Take.f l at_ e z fa n = some (r, l', a', e', z', f') ∧ Ok l' := by
  unfold cursor_Cursor_Take.f deckleref04_Cursor_Take.f
  by_cases h : n < 0 ∨ (l.length : Int) < n
  · rw [if_pos h, if_pos h, pfail at_ e z fa l 2 (by decide), rfail at_ e z fa l 2 (by decide)]
    exact ⟨_, _, _, _, _, _, rfl, rfl, Ok.nil⟩
  · have h2 := hl.2
    rw [if_neg h, if_neg h, clone_f _ (by rw [List.length_take]; omega), if_pos (by omega)]
    exact ⟨_, _, _, _, _, _, rfl, rfl, hl.drop _⟩
theorem byte_both (at_ e z fa : Int) (l : List Int) (hl : Ok l) : ∃ (r a' e' z' f' : Int) (l' : List Int), cursor_Cursor_Byte.f at_ e z fa l = some (r, a', e', z', f', l') ∧ deckleref04_Cursor_Byte.f l at_ e z fa = some (r, l', a', e', z', f') ∧ Ok l' := by
  unfold cursor_Cursor_Byte.f deckleref04_Cursor_Byte.f cursor_Cursor_Take.f deckleref04_Cursor_Take.f
  by_cases h : (1 : Int) < 0 ∨ (l.length : Int) < 1
  · rw [if_pos h, if_pos h, pfail at_ e z fa l 2 (by decide), rfail at_ e z fa l 2 (by decide)]
    exact ⟨_, _, _, _, _, _, rfl, rfl, Ok.nil⟩
  · have h2 := hl.2
    have h3 : (l.take (1 : Int).toNat).length = 1 := by rw [List.length_take]; omega
    rw [if_neg h, if_neg h, clone_f _ (by rw [h3]; decide), if_pos (by decide)]
    simp only [Option.bind_some, h3]
    exact ⟨_, _, _, _, _, _, rfl, rfl, hl.drop _⟩
theorem tk_cases (l : List Int) (hl : Ok l) : (∃ n s : Int, tk l 0 0 = (n, s, 0) ∧ isU64 n ∧ 1 ≤ s ∧ s ≤ l.length) ∨ ∃ e : Int, tk l 0 0 = (0, 0, e) ∧ e ≠ 0 := by
  by_cases h : (tk l 0 0).2.2 = 0
  · obtain ⟨v, e1, _, h2, _, h4, _⟩ := tk_was l hl.1 0 0 (by omega) h
    have hp := enc_pos v
    rw [show (128 : Int) ^ 0 = 1 from rfl, Int.mul_one] at h4 e1
    exact .inl ⟨_, _, e1, by unfold isU64; omega, by omega, by omega⟩
  · rcases tk_err l 0 0 with h1 | h1 | h1
    · exact absurd h1 h
    · exact .inr ⟨2, h1, by decide⟩
    · exact .inr ⟨3, h1, by decide⟩
/-- One number: what stands there, how long it is, or what is wrong with it. -/
theorem number_both (K : Nat) (hK : 50 ≤ K) (at_ e z fa : Int) (l : List Int) (hl : Ok l) (most : Int) : ∃ (r a' e' z' f' : Int) (l' : List Int), Ok l' ∧
    cursor_Cursor_number.f K at_ e z fa l most = some (r, a', e', z', f', l') ∧
    ((∃ x : Int, x ≠ 0 ∧ r = 0 ∧ deckleref04_Cursor_number.f K l at_ e z fa = some (0, 0, l', a', e', z', f') ∧ e' ≠ 0 ∧ l' = []) ∨
     (∃ s : Int, s ≠ 0 ∧ deckleref04_Cursor_number.f K l at_ e z fa = some (r, s, l, at_, e, z, fa) ∧ isU64 r ∧ r ≤ most ∧ ∃ q, deckleref04_Cursor_Take.f l at_ e z fa s = some (q, l', a', e', z', f')) ∨
     (∃ n s : Int, s ≠ 0 ∧ r = 0 ∧ isU64 n ∧ most < n ∧ deckleref04_Cursor_number.f K l at_ e z fa = some (n, s, l, at_, e, z, fa) ∧ deckleref04_Cursor_Fail.f l at_ e z fa 3 = some (l', a', e', z', f'))) := by
  obtain ⟨K, rfl⟩ : ∃ q, K = q + 2 := ⟨K - 2, by omega⟩
  have hp := take_eq l hl.1 (by have := hl.2; omega) (K + 2) (by omega)
  have hr := reftake_eq l hl.1 (by have := hl.2; omega) (K + 2) (by omega)
  unfold cursor_Cursor_number.f deckleref04_Cursor_number.f
  rw [hp, hr]
  rcases tk_cases l hl with ⟨n, s, ht, hn, h1, h2⟩ | ⟨x, ht, hx⟩
  · rw [ht]
    simp only [Option.bind_some]
    rw [if_pos trivial, if_pos trivial, cursor_Cursor_number.j0]
    by_cases c : n > most
    · rw [decide_eq_true c, if_pos rfl, cursor_Cursor_number.j1, if_neg (by decide), pfail at_ e z fa l 3 (by decide)]
      exact ⟨_, _, _, _, _, _, Ok.nil, rfl, .inr (.inr ⟨n, s, by omega, rfl, hn, c, rfl, rfail at_ e z fa l 3 (by decide)⟩)⟩
    · rw [decide_eq_false c, if_neg (by decide), cursor_Cursor_number.j1, if_pos rfl]
      obtain ⟨q, a', e', z', f', l', g1, g2, g3⟩ := take_both at_ e z fa l hl s
      rw [g1]
      exact ⟨_, _, _, _, _, _, g3, rfl, .inr (.inl ⟨s, by omega, rfl, hn, by omega, q, g2⟩)⟩
  · rw [ht]
    simp only [Option.bind_some]
    rw [if_neg hx, if_neg hx, cursor_Cursor_number.j0, if_neg (by decide), cursor_Cursor_number.j1, if_neg hx, pfail at_ e z fa l x hx, rfail at_ e z fa l x hx]
    refine ⟨_, _, _, _, _, _, Ok.nil, rfl, .inl ⟨x, hx, rfl, rfl, ?_, rfl⟩⟩
    split
    · exact hx
    · assumption
theorem num_both (K : Nat) (hK : 50 ≤ K) (at_ e z fa : Int) (l : List Int) (hl : Ok l) (m : Int) (hm : -9223372036854775808 ≤ m ∧ m ≤ 9223372036854775807) : ∃ (r a' e' z' f' : Int) (l' : List Int), cursor_Cursor_Num.f K at_ e z fa l m = some (r, a', e', z', f', l') ∧ deckleref04_Cursor_Num.f K l at_ e z fa m = some (r, l', a', e', z', f') ∧ Ok l' := by
  unfold cursor_Cursor_Num.f deckleref04_Cursor_Num.f
  by_cases c : m ≥ 0
  · rw [if_pos c]
    have hw : IntKind.u64.wrap m = m := u64w c (by omega)
    obtain ⟨r, a', e', z', f', l', ho, h1, h2⟩ := number_both K hK at_ e z fa l hl (IntKind.u64.wrap m)
    rw [h1]
    have c2 : ¬ m < 0 := by omega
    obtain ⟨K, rfl⟩ : ∃ q, K = q + 1 := ⟨K - 1, by omega⟩
    rcases h2 with ⟨x, hx, rfl, h3, _, _⟩ | ⟨s, hs, h3, hn, hle, q, h4⟩ | ⟨n, s, hs, rfl, hn, hlt, h3, h4⟩
    · rw [h3]
      simp only [Option.bind_some]
      rw [if_pos trivial, w64 (by decide) (by decide)]
      exact ⟨_, _, _, _, _, _, rfl, rfl, ho⟩
    · rw [h3]
      simp only [Option.bind_some]
      rw [if_neg hs, if_neg c2, deckleref04_Cursor_Num.j0, decide_eq_false (by omega), if_neg (by decide), h4]
      exact ⟨_, _, _, _, _, _, rfl, rfl, ho⟩
    · rw [h3]
      simp only [Option.bind_some]
      rw [if_neg hs, if_neg c2, deckleref04_Cursor_Num.j0, decide_eq_true hlt, if_pos rfl, h4, w64 (by decide) (by decide)]
      exact ⟨_, _, _, _, _, _, rfl, rfl, ho⟩
  · rw [if_neg c]
    have c2 : m < 0 := by omega
    obtain ⟨K, rfl⟩ : ∃ q, K = q + 1 := ⟨K - 1, by omega⟩
    have hp := take_eq l hl.1 (by have := hl.2; omega) (K + 1) (by omega)
    have hr := reftake_eq l hl.1 (by have := hl.2; omega) (K + 1) (by omega)
    unfold deckleref04_Cursor_number.f
    rw [hp, hr]
    rcases tk_cases l hl with ⟨n, s, ht, hn, h1, h2⟩ | ⟨x, ht, hx⟩
    · rw [ht]
      simp only [Option.bind_some]
      have f0 : cursor_Cursor_Fail.f at_ e z fa l 0 = some (at_, e, z, fa, l) := by unfold cursor_Cursor_Fail.f; rw [if_pos rfl]
      rw [f0]
      simp only [Option.bind_some]
      rw [pfail at_ e z fa l 3 (by decide), if_pos trivial]
      simp only [Option.bind_some]
      rw [if_neg (show ¬ s = 0 by omega), if_pos c2, deckleref04_Cursor_Num.j0, if_pos rfl, rfail at_ e z fa l 3 (by decide)]
      exact ⟨_, _, _, _, _, _, rfl, rfl, Ok.nil⟩
    · rw [ht]
      simp only [Option.bind_some]
      rw [pfail at_ e z fa l x hx, if_neg hx, rfail at_ e z fa l x hx]
      simp only [Option.bind_some]
      have hne : (if e = 0 then x else e) ≠ 0 := by split <;> assumption
      rw [pfail _ _ _ _ _ 3 (by decide), if_pos trivial, if_neg hne, if_neg hne, if_neg hne]
      exact ⟨_, _, _, _, _, _, rfl, rfl, Ok.nil⟩
theorem int_both (K : Nat) (hK : 50 ≤ K) (at_ e z fa : Int) (l : List Int) (hl : Ok l) : ∃ (r a' e' z' f' : Int) (l' : List Int), cursor_Cursor_Int.f K at_ e z fa l = some (r, a', e', z', f', l') ∧ deckleref04_Cursor_Int.f K l at_ e z fa = some (r, l', a', e', z', f') ∧ Ok l' := by
  unfold cursor_Cursor_Int.f deckleref04_Cursor_Int.f
  obtain ⟨r, a', e', z', f', l', ho, h1, h2⟩ := number_both K hK at_ e z fa l hl 18446744073709551615
  rw [h1]
  rcases h2 with ⟨x, hx, rfl, h3, _, _⟩ | ⟨s, hs, h3, hn, hle, q, h4⟩ | ⟨n, s, hs, rfl, hn, hlt, h3, h4⟩
  · rw [h3]
    simp only [Option.bind_some]
    rw [if_pos trivial, zag_eq 0 (by unfold isU64; omega)]
    exact ⟨_, _, _, _, _, _, rfl, rfl, ho⟩
  · rw [h3]
    simp only [Option.bind_some]
    rw [if_neg hs, h4, zag_eq r hn]
    simp only [Option.bind_some]
    rw [refzag_eq r hn]
    exact ⟨_, _, _, _, _, _, rfl, rfl, ho⟩
  · unfold isU64 at hn; omega
theorem round (k : Nat) (x : List Int) (l : List S42) (y : List Int) (i : Int) (a e z f : Int) (s : List Int) : decklelaw04_CursorReads.j2 (k + 1) x l true y i true a e z f s s a e z f = decklelaw04_CursorReads.l0 k x l true y (wrap64 (i + 1)) a e z f s s a e z f := by
  rw [decklelaw04_CursorReads.j2, if_pos rfl]
  have hend : ∃ q1 q2 q3 : Int, cursor_Cursor_End.f a e z f s = some (q1, q2, q3, a, e, z, f, s) ∧ deckleref04_Cursor_End.f s a e z f = some (q1, q2, q3, s, a, e, z, f) := by
    unfold cursor_Cursor_End.f deckleref04_Cursor_End.f
    by_cases c : e = 0
    · rw [if_pos c, if_pos c]
      by_cases c2 : (s.length : Int) > 0
      · rw [if_pos c2, if_pos c2]; exact ⟨_, _, _, rfl, rfl⟩
      · rw [if_neg c2, if_neg c2]; exact ⟨_, _, _, rfl, rfl⟩
    · rw [if_neg c, if_neg c]; exact ⟨_, _, _, rfl, rfl⟩
  obtain ⟨q1, q2, q3, g1, g2⟩ := hend
  simp only [cursor_place_Fault.f, cursor_Cursor_Left.f, cursor_place_At.f, deckleref04_Cursor_Fault.f, deckleref04_Cursor_Left.f, deckleref04_Cursor_At.f, Option.bind_some, beq_self_eq_true, Bool.not_true, Bool.or_self, Bool.false_eq_true, if_false, if_true, g1, g2]
theorem loop (x : List Int) (l : List S42) (hl : l.length ≤ 100) (hw : ∀ y ∈ l, (Lit.int .i64 y.f0).wf = true ∧ (Lit.int .i64 y.f1).wf = true) (d : Nat) : ∀ (K i : Nat) (a e z f : Int) (s : List Int), i ≤ l.length → l.length - i = d → 2 * d + 60 ≤ K → Ok s → decklelaw04_CursorReads.l0 K x l true x (i : Int) a e z f s s a e z f = some true := by
  induction d with
  | zero =>
    intro K i a e z f s h1 h2 h3 hs
    obtain ⟨K, rfl⟩ : ∃ q, K = q + 1 := ⟨K - 1, by omega⟩
    have c : ¬ (i : Int) < l.length := by omega
    rw [decklelaw04_CursorReads.l0, if_neg c, if_pos rfl, beq_self_eq_true]
  | succ d ih =>
    intro K i a e z f s h1 h2 h3 hs
    obtain ⟨K, rfl⟩ : ∃ q, K = q + 2 := ⟨K - 2, by omega⟩
    have c : (i : Int) < l.length := by omega
    have c0 : (0 : Int) ≤ i := by omega
    have hw1 : wrap64 ((i : Int) + 1) = ((i + 1 : Nat) : Int) := by rw [w64 (by omega) (by omega)]; try omega
    have g1 : i + 1 ≤ l.length := by omega
    have g2 : l.length - (i + 1) = d := by omega
    have g3 : 2 * d + 60 ≤ K := by omega
    have g4 : 50 ≤ K + 1 := by omega
    have hm := int_of_wf (hw (rd_T42 l i) (by
      unfold rd_T42
      rw [Int.toNat_natCast, List.getD_eq_getElem?_getD, List.getElem?_eq_getElem (by omega)]
      exact List.getElem_mem _)).2
    have next : ∀ (a e z f : Int) (s : List Int), Ok s → decklelaw04_CursorReads.j2 (K + 1) x l true x (i : Int) true a e z f s s a e z f = some true := fun a e z f s hs => (round K x l x i a e z f s).trans (by rw [hw1]; exact ih K (i + 1) a e z f s g1 g2 g3 hs)
    clear hw1
    rw [show K + 2 = (K + 1) + 1 from rfl, decklelaw04_CursorReads.l0, if_pos c, if_pos c0]
    split
    · obtain ⟨r, a', e', z', f', l', e1, e2, ho⟩ := byte_both a e z f s hs
      rw [e1, e2]
      simp only [Option.bind_some, beq_self_eq_true]
      exact next _ _ _ _ _ ho
    split
    · obtain ⟨r, a', e', z', f', l', e1, e2, ho⟩ := num_both (K + 1) g4 a e z f s hs _ hm
      rw [e1, e2]
      simp only [Option.bind_some, beq_self_eq_true]
      exact next _ _ _ _ _ ho
    split
    · obtain ⟨r, a', e', z', f', l', e1, e2, ho⟩ := int_both (K + 1) g4 a e z f s hs
      rw [e1, e2]
      simp only [Option.bind_some, beq_self_eq_true]
      exact next _ _ _ _ _ ho
    split
    · obtain ⟨r, a', e', z', f', l', e1, e2, ho⟩ := take_both a e z f s hs (rd_T42 l i).f1
      rw [e1, e2]
      simp only [Option.bind_some, beq_self_eq_true]
      exact next _ _ _ _ _ ho
    split
    · obtain ⟨a', e', z', f', l', e1, e2, ho⟩ := fail_both a e z f s hs (rd_T42 l i).f1
      rw [e1, e2]
      simp only [Option.bind_some]
      exact next _ _ _ _ _ ho
    · exact next _ _ _ _ _ hs
theorem CursorReadsK (K : Nat) (hK : 301 ≤ K) (hs : decklelaw04_small.f K = some true) (x : List Int) (hx : ∀ y ∈ x, 0 ≤ y ∧ y ≤ 255) (at_ : Int) (l : List S42) (hw : ∀ y ∈ l, (Lit.int .i64 y.f0).wf = true ∧ (Lit.int .i64 y.f1).wf = true) : decklelaw04_CursorReads.f K x at_ l = some true := by
  obtain ⟨K, rfl⟩ : ∃ q, K = q + 1 := ⟨K - 1, by omega⟩
  unfold decklelaw04_CursorReads.f
  rw [hs]
  simp only [Option.bind_some]
  by_cases c1 : (x.length : Int) > 500
  · rw [if_pos c1, decklelaw04_CursorReads.j0, if_pos rfl]
  rw [if_neg c1, decklelaw04_CursorReads.j0]
  by_cases c2 : (l.length : Int) > 100
  · rw [decide_eq_true c2, if_pos rfl]
  rw [decide_eq_false c2, if_neg (by decide)]
  have o1 : cursor_Open.f x at_ = some (mn (mx at_ 0) 1099511627776, 0, 0, 0, x) := by
    unfold cursor_Open.f
    rw [clone_f x (by omega)]
    rfl
  have o2 : deckleref04_Open.f x at_ = some (x, mn (mx at_ 0) 1099511627776, 0, 0, 0) := by
    unfold deckleref04_Open.f
    simp only [Option.bind_some, List.length_nil, List.nil_append]
    rw [if_pos (by omega)]
  simp only [Option.bind_some, List.length_nil, List.nil_append]
  rw [if_pos (by omega), o1]
  simp only [Option.bind_some]
  rw [o2]
  simp only [Option.bind_some]
  exact loop x l (by omega) hw l.length K 0 _ _ _ _ x (Nat.zero_le _) rfl (by omega) ⟨hx, by omega⟩
/-- What is read, act by act, what is left, where one stands, and what is wrong, is as the document says. -/
theorem CursorReads (x : List Int) (hx : ∀ y ∈ x, 0 ≤ y ∧ y ≤ 255) (a : Int) (_ : (Lit.int .i64 a).wf = true) (l : List S42) (hw : ∀ y ∈ l, (Lit.int .i64 y.f0).wf = true ∧ (Lit.int .i64 y.f1).wf = true) : decklelaw04_CursorReads.f 400 x a l = some true := CursorReadsK 400 (by decide) small_true x hx a l hw
end Go.Proofs.Ytgegbiknohjpgaa.Pure
