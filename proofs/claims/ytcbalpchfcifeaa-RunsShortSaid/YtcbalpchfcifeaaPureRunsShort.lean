/- So many like bytes have few, and what has no run has one number more: for all bytes. -/
import Derived.Test.YtcbalpchfcifeaaHRunsShortx6
import Derived.KernelRfl
namespace Go.Proofs.Ytcbalpchfcifeaa.Pure
open Go.RowKit Go.Proofs.Ytcbalpchfcifeaa.HRunsShort Go.Proofs.YtcbalpchfcifeaaW.PrintWords Go.Proofs.YtcbalpchfcifeaaW.PrintLast Go.Proofs.YtcbalpchfcifeaaW.PrintMore
set_option linter.unusedVariables false
set_option linter.unusedSimpArgs false

/-! plain facts on numbers as bytes -/
theorem w64 {n : Int} (h1 : -9223372036854775808 ≤ n) (h2 : n ≤ 9223372036854775807) : wrap64 n = n := by unfold wrap64; omega
theorem u64w {n : Int} (h1 : 0 ≤ n) (h2 : n < 18446744073709551616) : IntKind.u64.wrap n = n := by rw [IntKind.wrap_u64]; omega
def isByte (x : Int) : Prop := 0 ≤ x ∧ x ≤ 255
def isU64 (x : Int) : Prop := 0 ≤ x ∧ x ≤ 18446744073709551615
theorem byte_of_wf (b : List Int) (h : ∀ x ∈ b, (Lit.int .u8 x).wf = true) : ∀ x ∈ b, isByte x := fun x hx => by
  have := h x hx
  have e0 : IntKind.u8.min = 0 := by decide
  have e1 : IntKind.u8.max = 255 := by decide
  simp only [Lit.wf, Bool.and_eq_true, decide_eq_true_eq, e0, e1] at this
  exact this
theorem u64_of_wf {x : Int} (h : (Lit.int .u64 x).wf = true) : isU64 x := by
  have e0 : IntKind.u64.min = 0 := by decide
  have e1 : IntKind.u64.max = 18446744073709551615 := by decide
  simp only [Lit.wf, Bool.and_eq_true, decide_eq_true_eq, e0, e1] at h
  exact h
theorem int_of_wf {x : Int} (h : (Lit.int .i64 x).wf = true) : -9223372036854775808 ≤ x ∧ x ≤ 9223372036854775807 := by
  have e0 : IntKind.i64.min = -9223372036854775808 := by decide
  have e1 : IntKind.i64.max = 9223372036854775807 := by decide
  simp only [Lit.wf, Bool.and_eq_true, decide_eq_true_eq, e0, e1] at h
  exact h
theorem rd_at (b : List Int) (m : Nat) (h : m < b.length) : rd b (m : Int) = b[m] := by
  unfold rd
  rw [List.getD_eq_getElem?_getD, Int.toNat_natCast, List.getElem?_eq_getElem h]; rfl

/-- a number's bytes -/
def enc (n : Nat) : List Int := if n < 128 then [(n : Int)] else ((n % 128 + 128 : Nat) : Int) :: enc (n / 128)
termination_by n
decreasing_by omega
theorem enc_small {n : Nat} (h : n < 128) : enc n = [(n : Int)] := by rw [enc, if_pos h]
theorem enc_big {n : Nat} (h : ¬ n < 128) : enc n = ((n % 128 + 128 : Nat) : Int) :: enc (n / 128) := by rw [enc, if_neg h]
theorem enc_pos (n : Nat) : 1 ≤ (enc n).length := by
  by_cases h : n < 128
  · rw [enc_small h]; simp
  · rw [enc_big h]; simp
theorem enc_bytes (n : Nat) : ∀ x ∈ enc n, isByte x := by
  induction n using Nat.strongRecOn with
  | _ n ih =>
    by_cases h : n < 128
    · rw [enc_small h]
      intro x hx
      rw [List.mem_singleton.1 hx]
      exact ⟨by omega, by omega⟩
    · rw [enc_big h]
      intro x hx
      rcases List.mem_cons.1 hx with rfl | hx
      · exact ⟨by omega, by omega⟩
      · exact ih (n / 128) (by omega) x hx
theorem enc_len (k : Nat) : ∀ n, n < 128 ^ (k + 1) → (enc n).length ≤ k + 1 := by
  induction k with
  | zero => intro n h; rw [enc_small (by simpa using h)]; simp
  | succ k ih =>
    intro n h
    by_cases c : n < 128
    · rw [enc_small c]; simp
    · rw [enc_big c, List.length_cons]
      have := ih (n / 128) (Nat.div_lt_of_lt_mul (by rw [Nat.pow_succ] at h; omega))
      omega
theorem enc_ten (n : Nat) (h : n < 18446744073709551616) : (enc n).length ≤ 10 := enc_len 9 n (Nat.lt_of_lt_of_le h (by decide))

/-- what is read: of the bytes that are left, behind k of them -/
def tk : List Int → Nat → Int → Int × Int × Int
  | [], _, _ => (0, 0, 2)
  | c :: r, k, acc => if (k = 9 ∧ c > 1) ∨ (k > 0 ∧ c = 0) then (0, 0, 3) else if c < 128 then (acc + c * 128 ^ k, (k : Int) + 1, 0) else tk r (k + 1) (acc + (c - 128) * 128 ^ k)

theorem tk_nil (k : Nat) (acc : Int) : tk [] k acc = (0, 0, 2) := rfl
theorem tk_cons (c : Int) (r : List Int) (k : Nat) (acc : Int) : tk (c :: r) k acc = if (k = 9 ∧ c > 1) ∨ (k > 0 ∧ c = 0) then (0, 0, 3) else if c < 128 then (acc + c * 128 ^ k, (k : Int) + 1, 0) else tk r (k + 1) (acc + (c - 128) * 128 ^ k) := rfl
theorem p9 : (128 : Int) ^ 9 = 9223372036854775808 := by decide

theorem pow_le9 (k : Nat) (h : k ≤ 8) : (128 : Int) ^ k * 128 ≤ 9223372036854775808 ∧ 1 ≤ (128 : Int) ^ k := by
  match k, h with
  | 0, _ => decide
  | 1, _ => decide
  | 2, _ => decide
  | 3, _ => decide
  | 4, _ => decide
  | 5, _ => decide
  | 6, _ => decide
  | 7, _ => decide
  | 8, _ => decide
theorem shl_pow (k : Nat) (h : k ≤ 9) (c : Int) (h0 : 0 ≤ c) (h1 : c * 128 ^ k < 18446744073709551616) : shl .u64 c (wrap64 (7 * (k : Int))) = c * 128 ^ k := by
  rw [w64 (by omega) (by omega)]
  unfold shl
  rw [show (7 * (k : Int)).toNat = 7 * k by omega, Nat.min_eq_left (by show 7 * k ≤ 64; omega)]
  have e : (2 : Int) ^ (7 * k) = 128 ^ k := by rw [Int.pow_mul]; rfl
  rw [e]
  exact u64w (Int.mul_nonneg h0 (Int.pow_nonneg (by decide))) h1
theorem andNot128 (c : Int) (h : isByte c) : Go.bits .andNot .u8 c 128 = c % 128 := by
  obtain ⟨n, rfl⟩ := Int.eq_ofNat_of_zero_le h.1
  have h2 := h.2
  have e := Go.u8_andNot_nat n 128 (by omega) (by omega)
  rw [show (255 - 128 : Nat) = 127 from rfl, Go.nat_mask7] at e
  rw [show (128 : Int) = ((128 : Nat) : Int) from rfl, e]; omega
theorem or_low (k : Nat) (h : k ≤ 9) (acc c : Int) (h0 : 0 ≤ acc) (h1 : acc < 128 ^ k) (h2 : 0 ≤ c) (h3 : acc + c * 128 ^ k < 18446744073709551616) : Go.bits .or .u64 acc (c * 128 ^ k) = acc + c * 128 ^ k := by
  obtain ⟨a, rfl⟩ := Int.eq_ofNat_of_zero_le h0
  obtain ⟨m, rfl⟩ := Int.eq_ofNat_of_zero_le h2
  have e1 : ((m : Int) * 128 ^ k) = ((m * 128 ^ k : Nat) : Int) := by push_cast; rfl
  rw [e1] at h3 ⊢
  have h4 : a < 128 ^ k := by exact_mod_cast h1
  have e := Go.u64_or_nat a (m * 128 ^ k) (by omega) (by omega)
  have e2 : (128 : Nat) ^ k = 2 ^ (7 * k) := by rw [Nat.pow_mul]
  rw [e, Nat.or_comm, Go.nat_join (7 * k) (m * 128 ^ k) a (by rw [e2]; exact Nat.mul_mod_left _ _) (by rw [← e2]; exact h4)]
  push_cast; omega

theorem take_loop (b : List Int) (hb : ∀ x ∈ b, isByte x) (hl : b.length ≤ 100000) (d : Nat) : ∀ (K m : Nat) (acc : Int), m ≤ 9 → m ≤ b.length → 9 - m = d → 3 * d + 4 ≤ K → 0 ≤ acc → acc < 128 ^ m →
    varint_Take.l0 K acc b (b.length : Int) (m : Int) = some (tk (b.drop m) m acc) := by
  induction d with
  | zero =>
    intro K m acc h9 hm hd hK h0 h1
    have e9 : m = 9 := by omega
    subst e9
    obtain ⟨K, rfl⟩ : ∃ q, K = q + 3 := ⟨K - 3, by omega⟩
    simp only [varint_Take.l0]
    by_cases c : (9 : Nat) < b.length
    · have hc := hb _ (List.getElem_mem c)
      rw [if_pos (by omega), if_pos (by omega), if_pos (by omega), if_pos (by omega), rd_at b 9 c, List.drop_eq_getElem_cons c]
      rw [tk_cons]
      by_cases g : b[9] > 1
      · rw [decide_eq_true g]
        simp only [varint_Take.j1, varint_Take.j2, if_true]
        rw [if_pos (.inl ⟨trivial, g⟩)]
      · rw [decide_eq_false g]
        simp only [varint_Take.j1]
        rw [if_neg (by simp), if_pos (by omega)]
        unfold isByte at hc
        by_cases z : b[9] = 0
        · simp only [varint_Take.j2, z]
          rw [if_pos (by simp), if_pos (.inr ⟨by omega, trivial⟩)]
        · have e1 : b[9] = 1 := by omega
          simp only [varint_Take.j2, e1]
          have hp9 := p9
          rw [if_neg (by simp), if_pos (by rw [w64 (by omega) (by omega)]; omega), if_pos (by decide), if_neg (by omega), if_pos (by decide), andNot128 1 ⟨by decide, by decide⟩, show IntKind.u64.wrap (1 % 128) = 1 from by decide,
            shl_pow 9 (by omega) 1 (by decide) (by omega), or_low 9 (by omega) acc 1 h0 h1 (by decide) (by omega), w64 (by omega) (by omega)]
    · rw [if_neg (by omega), List.drop_eq_nil_of_le (by omega)]
      simp [tk]
  | succ d ih =>
    intro K m acc h9 hm hd hK h0 h1
    obtain ⟨K, rfl⟩ : ∃ q, K = q + 3 := ⟨K - 3, by omega⟩
    have hp := pow_le9 m (by omega)
    simp only [varint_Take.l0]
    by_cases c : m < b.length
    · have hc := hb _ (List.getElem_mem c)
      unfold isByte at hc
      have hw : wrap64 ((m : Int) + 1) = ((m + 1 : Nat) : Int) := by rw [w64 (by omega) (by omega)]; omega
      rw [if_pos (by omega), if_pos (by omega), if_pos (by omega), if_neg (by omega), rd_at b m c, List.drop_eq_getElem_cons c]
      simp only [varint_Take.j1]
      rw [tk_cons]
      rw [if_neg (by simp)]
      by_cases z : m > 0 ∧ b[m] = 0
      · rw [if_pos (by omega), z.2]
        simp only [varint_Take.j2]
        rw [if_pos (by simp), if_pos (.inr ⟨z.1, trivial⟩)]
      · have hno : ¬ ((m = 9 ∧ b[m] > 1) ∨ (m > 0 ∧ b[m] = 0)) := by omega
        rw [if_neg hno]
        have hj : (if (m : Int) > 0 then varint_Take.j2 (K + 1) acc (m : Int) b[m] b (b.length : Int) (m : Int) (b[m] == 0) else varint_Take.j2 (K + 1) acc (m : Int) b[m] b (b.length : Int) (m : Int) false) = varint_Take.j2 (K + 1) acc (m : Int) b[m] b (b.length : Int) (m : Int) false := by
          by_cases q : (m : Int) > 0
          · rw [if_pos q, show (b[m] == 0) = false from by simp; omega]
          · rw [if_neg q]
        rw [hj]
        have hcm : b[m] % 128 * 128 ^ m ≤ 127 * 128 ^ m := Int.mul_le_mul_of_nonneg_right (by omega) (by omega)
        have hcn : 0 ≤ b[m] % 128 * 128 ^ m := Int.mul_nonneg (by omega) (by omega)
        simp only [varint_Take.j2]
        rw [if_neg (by simp), if_pos (by rw [w64 (by omega) (by omega)]; omega), andNot128 _ hc, u64w (by omega) (by omega), shl_pow m (by omega) _ (by omega) (by omega), or_low m (by omega) acc _ h0 h1 (by omega) (by omega), hw]
        by_cases l : b[m] < 128
        · rw [if_pos l, if_pos l, show b[m] % 128 = b[m] by omega]
          congr 2
        · rw [if_neg l, if_neg l]
          have hq : b[m] % 128 = b[m] - 128 := by omega
          have ep : (128 : Int) ^ (m + 1) = 128 ^ m * 128 := Int.pow_succ _ _
          rw [ih K (m + 1) _ (by omega) (by omega) (by omega) (by omega) (by omega) (by rw [ep]; omega), hq]
    · rw [if_neg (by omega), List.drop_eq_nil_of_le (by omega)]
      simp [tk]
theorem take_eq (b : List Int) (hb : ∀ x ∈ b, isByte x) (hl : b.length ≤ 100000) (K : Nat) (hK : 40 ≤ K) : varint_Take.f K b = some (tk b 0 0) := by
  unfold varint_Take.f
  have := take_loop b hb hl 9 K 0 0 (by omega) (by omega) (by omega) (by omega) (by omega) (by decide)
  simpa using this

/-- numbers' bytes, one behind the other -/
def flat (l : List Int) : List Int := l.flatMap fun x => enc x.toNat
theorem or128 (n : Nat) : Go.bits .or .u8 (((n : Int)) % 256) 128 = ((n % 128 + 128 : Nat) : Int) := by
  have e := Go.u8_or_nat (n % 256) 128 (by omega) (by omega)
  have e1 : ((n : Int)) % 256 = ((n % 256 : Nat) : Int) := by omega
  rw [e1, show (128 : Int) = ((128 : Nat) : Int) from rfl, e]
  have key : ∀ v : Fin 256, (v : Nat) ||| 128 = v % 128 + 128 := by decide +kernel
  have := key ⟨n % 256, by omega⟩
  simp only at this
  rw [this]
  congr 1; omega
theorem put_one (n : Nat) : ∀ (K : Nat) (x5 x11 : List Int) (x12 x13 : Int), x5.length + (enc n).length ≤ 1000000 →
    varint_Put.l1 (K + (enc n).length) x5 (n : Int) x11 x12 x13 = varint_Put.l0 K (x5 ++ enc n) x11 x12 (wrap64 (x13 + 1)) := by
  induction n using Nat.strongRecOn with
  | _ n ih =>
    intro K x5 x11 x12 x13 hl
    by_cases h : n < 128
    · rw [enc_small h] at hl ⊢
      simp only [List.length_singleton] at hl ⊢
      simp only [varint_Put.l1]
      rw [if_neg (by omega), if_pos (by omega), show ((n : Int)) % 256 = n by omega]
    · rw [enc_big h] at hl ⊢
      simp only [List.length_cons] at hl ⊢
      rw [show K + ((enc (n / 128)).length + 1) = K + (enc (n / 128)).length + 1 by omega]
      simp only [varint_Put.l1]
      rw [if_pos (by omega), if_pos (by omega), or128, show (n : Int) / 128 = ((n / 128 : Nat) : Int) by omega, ih (n / 128) (by omega) _ _ _ _ _ (by simp; omega)]
      simp
theorem put_all (l : List Int) (hl : ∀ x ∈ l, isU64 x) (hn : l.length ≤ 1000) (d : Nat) : ∀ (K m : Nat) (x5 : List Int), m ≤ l.length → l.length - m = d → 11 * d + 1 ≤ K → x5.length + 10 * d ≤ 100000 →
    varint_Put.l0 K x5 l (l.length : Int) (m : Int) = some (x5 ++ flat (l.drop m)) := by
  induction d with
  | zero =>
    intro K m x5 h1 h2 hK hx
    obtain ⟨K, rfl⟩ : ∃ q, K = q + 1 := ⟨K - 1, by omega⟩
    simp only [varint_Put.l0]
    rw [if_neg (by omega), List.drop_eq_nil_of_le (by omega)]
    simp [flat]
  | succ d ih =>
    intro K m x5 h1 h2 hK hx
    have c : m < l.length := by omega
    have hu := hl _ (List.getElem_mem c)
    unfold isU64 at hu
    have ht := enc_ten l[m].toNat (by omega)
    obtain ⟨K, rfl⟩ : ∃ q, K = q + (enc l[m].toNat).length + 1 := ⟨K - (enc l[m].toNat).length - 1, by omega⟩
    have hw : wrap64 ((m : Int) + 1) = ((m + 1 : Nat) : Int) := by rw [w64 (by omega) (by omega)]; omega
    simp only [varint_Put.l0]
    rw [if_pos (by omega), if_pos (by omega), if_pos (by omega), rd_at l m c]
    have e : l[m] = ((l[m].toNat : Nat) : Int) := by omega
    have key := put_one l[m].toNat K x5 l (l.length : Int) (m : Int) (by omega)
    rw [← e] at key
    rw [key, hw, ih K (m + 1) _ (by omega) (by omega) (by omega) (by rw [List.length_append]; omega), List.drop_eq_getElem_cons c]
    simp only [flat, List.flatMap_cons, List.append_assoc]
theorem tk_enc (n : Nat) : ∀ (k : Nat) (acc : Int) (more : List Int), (n : Int) * 128 ^ k < 18446744073709551616 → (0 < k → 0 < n) → tk (enc n ++ more) k acc = (acc + n * 128 ^ k, (k : Int) + (enc n).length, 0) := by
  induction n using Nat.strongRecOn with
  | _ n ih =>
    intro k acc more hv hk
    have h9 : k = 9 → n ≤ 1 := by
      intro e; subst e
      have e9 : (128 : Int) ^ 9 = 9223372036854775808 := by decide
      rw [e9] at hv; omega
    by_cases h : n < 128
    · rw [enc_small h]
      simp only [List.singleton_append, List.length_singleton]
      rw [tk_cons]
      rw [if_neg (by omega), if_pos (by omega)]
      rfl
    · rw [enc_big h]
      simp only [List.cons_append, List.length_cons]
      rw [tk_cons]
      rw [if_neg (by omega), if_neg (by omega)]
      have ep : (128 : Int) ^ (k + 1) = 128 ^ k * 128 := Int.pow_succ _ _
      have en : (n : Int) * 128 ^ k = ((n % 128 : Nat) : Int) * 128 ^ k + ((n / 128 : Nat) : Int) * 128 ^ (k + 1) := by
        rw [ep, Int.mul_comm (128 ^ k) 128, ← Int.mul_assoc, ← Int.add_mul]
        congr 1; omega
      have hn : 0 ≤ ((n % 128 : Nat) : Int) * 128 ^ k := Int.mul_nonneg (by omega) (Int.pow_nonneg (by decide))
      rw [ih (n / 128) (by omega) (k + 1) _ more (by omega) (by omega), show (((n % 128 + 128 : Nat) : Int) - 128) = ((n % 128 : Nat) : Int) by omega]
      simp only [Prod.mk.injEq, and_true]
      refine ⟨by omega, by push_cast; omega⟩
theorem take_enc (n : Int) (h : isU64 n) (more : List Int) : tk (enc n.toNat ++ more) 0 0 = (n, ((enc n.toNat).length : Int), 0) := by
  unfold isU64 at h
  rw [tk_enc n.toNat 0 0 more (by simp; omega) (by omega)]
  simp; omega
/-- more bytes behind change nothing, if they did not end -/
theorem tk_more (b more : List Int) : ∀ (k : Nat) (acc : Int), (tk b k acc).2.2 ≠ 2 → tk (b ++ more) k acc = tk b k acc := by
  induction b with
  | nil => intro k acc h; exact absurd rfl h
  | cons c r ih =>
    intro k acc h
    rw [tk_cons] at h
    rw [List.cons_append, tk_cons, tk_cons]
    split
    · rfl
    · rename_i h1
      rw [if_neg h1] at h
      split
      · rfl
      · rename_i h2
        rw [if_neg h2] at h
        exact ih _ _ h
theorem tk_short (b : List Int) : ∀ (k : Nat) (acc : Int), k ≤ 9 → (tk b k acc).2.2 = 2 → k + b.length ≤ 9 := by
  induction b with
  | nil => intro k acc hk _; simpa using hk
  | cons c r ih =>
    intro k acc hk h
    rw [tk_cons] at h
    split at h
    · exact absurd h (by simp)
    · rename_i h1
      split at h
      · exact absurd h (by simp)
      · rename_i h2
        have := ih (k + 1) _ (by omega) h
        simp only [List.length_cons]; omega
/-- the errors, and what stands beside them -/
theorem tk_err (b : List Int) : ∀ (k : Nat) (acc : Int), (tk b k acc).2.2 = 0 ∨ tk b k acc = (0, 0, 2) ∨ tk b k acc = (0, 0, 3) := by
  induction b with
  | nil => intro k acc; exact .inr (.inl rfl)
  | cons c r ih =>
    intro k acc
    rw [tk_cons]
    split
    · exact .inr (.inr rfl)
    · split
      · exact .inl rfl
      · exact ih _ _
/-- 2^64 is a multiple of 128^(k+1) -/
theorem le8 {P : Nat → Prop} (h0 : P 0) (h1 : P 1) (h2 : P 2) (h3 : P 3) (h4 : P 4) (h5 : P 5) (h6 : P 6) (h7 : P 7) (h8 : P 8) (k : Nat) (hk : k ≤ 8) : P k := by
  match k, hk with
  | 0, _ => exact h0
  | 1, _ => exact h1
  | 2, _ => exact h2
  | 3, _ => exact h3
  | 4, _ => exact h4
  | 5, _ => exact h5
  | 6, _ => exact h6
  | 7, _ => exact h7
  | 8, _ => exact h8
theorem mult_lt (v : Nat) (k : Nat) (hk : k ≤ 8) (h : (v : Int) * (128 ^ k * 128) < 18446744073709551616) : (v : Int) * (128 ^ k * 128) + 128 ^ k * 128 ≤ 18446744073709551616 := by
  revert h
  refine le8 (P := fun k => (v : Int) * (128 ^ k * 128) < 18446744073709551616 → (v : Int) * (128 ^ k * 128) + 128 ^ k * 128 ≤ 18446744073709551616) ?_ ?_ ?_ ?_ ?_ ?_ ?_ ?_ ?_ k hk
  · intro h; rw [show (128 : Int) ^ 0 * 128 = 128 by decide] at h ⊢; omega
  · intro h; rw [show (128 : Int) ^ 1 * 128 = 16384 by decide] at h ⊢; omega
  · intro h; rw [show (128 : Int) ^ 2 * 128 = 2097152 by decide] at h ⊢; omega
  · intro h; rw [show (128 : Int) ^ 3 * 128 = 268435456 by decide] at h ⊢; omega
  · intro h; rw [show (128 : Int) ^ 4 * 128 = 34359738368 by decide] at h ⊢; omega
  · intro h; rw [show (128 : Int) ^ 5 * 128 = 4398046511104 by decide] at h ⊢; omega
  · intro h; rw [show (128 : Int) ^ 6 * 128 = 562949953421312 by decide] at h ⊢; omega
  · intro h; rw [show (128 : Int) ^ 7 * 128 = 72057594037927936 by decide] at h ⊢; omega
  · intro h; rw [show (128 : Int) ^ 8 * 128 = 9223372036854775808 by decide] at h ⊢; omega
/-- what is read was laid -/
theorem tk_was (b : List Int) (hb : ∀ x ∈ b, isByte x) : ∀ (k : Nat) (acc : Int), k ≤ 9 → (tk b k acc).2.2 = 0 →
    ∃ v : Nat, tk b k acc = (acc + v * 128 ^ k, (k : Int) + (enc v).length, 0) ∧ b.take (enc v).length = enc v ∧ (enc v).length ≤ b.length ∧ (0 < k → 0 < v) ∧ (v : Int) * 128 ^ k < 18446744073709551616 ∧
      ∀ i, i < (enc v).length → ∀ acc', tk (b.take i) k acc' = (0, 0, 2) := by
  induction b with
  | nil => intro k acc _ h; exact absurd h (by simp [tk_nil])
  | cons c r ih =>
    intro k acc hk h
    have hc := hb c (by simp)
    unfold isByte at hc
    rw [tk_cons] at h
    rw [tk_cons]
    split at h
    · exact absurd h (by simp)
    · rename_i h1
      rw [if_neg h1]
      split at h
      · rename_i h2
        rw [if_pos h2]
        have e : c = ((c.toNat : Nat) : Int) := by omega
        have es : enc c.toNat = [c] := by rw [enc_small (by omega), ← e]
        refine ⟨c.toNat, ?_, ?_, ?_, ?_, ?_, ?_⟩
        · rw [es, ← e]; rfl
        · rw [es]; rfl
        · rw [es]; simp
        · omega
        · rw [← e]
          by_cases k9 : k = 9
          · subst k9
            have e9 : (128 : Int) ^ 9 = 9223372036854775808 := by decide
            rw [e9]; omega
          · have hp := pow_le9 k (by omega)
            have hm : c * 128 ^ k ≤ 127 * 128 ^ k := Int.mul_le_mul_of_nonneg_right (by omega) (by omega)
            omega
        · intro i hi acc'
          rw [es] at hi
          have : i = 0 := by simpa using hi
          subst this; rfl
      · rename_i h2
        rw [if_neg h2]
        obtain ⟨v, g1, g2, g3, g4, g5, g6⟩ := ih (fun x hx => hb x (by simp [hx])) (k + 1) _ (by omega) h
        have hv := g4 (by omega)
        have ev : (c.toNat - 128 + 128 * v) / 128 = v := by omega
        have em : (c.toNat - 128 + 128 * v) % 128 = c.toNat - 128 := by omega
        have eb : enc (c.toNat - 128 + 128 * v) = c :: enc v := by
          rw [enc_big (by omega), ev, em]
          congr 1; omega
        have ep : (128 : Int) ^ (k + 1) = 128 ^ k * 128 := Int.pow_succ _ _
        have en : ((c.toNat - 128 + 128 * v : Nat) : Int) * 128 ^ k = (c - 128) * 128 ^ k + (v : Int) * 128 ^ (k + 1) := by
          have e0 : ((c.toNat - 128 + 128 * v : Nat) : Int) = (c - 128) + (v : Int) * 128 := by omega
          rw [e0, Int.add_mul, ep, Int.mul_assoc, Int.mul_comm 128 (128 ^ k)]
        refine ⟨c.toNat - 128 + 128 * v, ?_, ?_, ?_, ?_, ?_, ?_⟩
        · rw [g1, eb, en]
          simp only [List.length_cons, Prod.mk.injEq, and_true]
          exact ⟨by omega, by push_cast; omega⟩
        · rw [eb, List.length_cons, List.take_succ_cons, g2]
        · rw [eb]; simp only [List.length_cons]; omega
        · omega
        · rw [en]
          by_cases k9 : k = 9
          · omega
          · have hp := pow_le9 k (by omega)
            rw [ep] at g5 ⊢
            have hm : (c - 128) * 128 ^ k ≤ 127 * 128 ^ k := Int.mul_le_mul_of_nonneg_right (by omega) (by omega)
            have key := mult_lt v k (by omega) g5
            omega
        · intro i hi acc'
          rw [eb, List.length_cons] at hi
          cases i with
          | zero => rfl
          | succ i =>
            rw [List.take_succ_cons]
            rw [tk_cons]
            rw [if_neg h1, if_neg h2]
            exact g6 i (by omega) _
theorem str_inj : ∀ (a b : List Int), (∀ x ∈ a, isByte x) → (∀ x ∈ b, isByte x) → (a.map fun n => UInt8.ofNat n.toNat) = (b.map fun n => UInt8.ofNat n.toNat) → a = b
  | [], [], _, _, _ => rfl
  | [], y :: b, _, _, h => by simp at h
  | x :: a, [], _, _, h => by simp at h
  | x :: a, y :: b, ha, hb, h => by
    simp only [List.map_cons, List.cons.injEq] at h
    have hx := ha x (by simp)
    have hy := hb y (by simp)
    have e := congrArg UInt8.toNat h.1
    rw [UInt8.toNat_ofNat', UInt8.toNat_ofNat'] at e
    unfold isByte at hx hy
    have exy : x = y := by omega
    rw [exy, str_inj a b (fun z hz => ha z (by simp [hz])) (fun z hz => hb z (by simp [hz])) h.2]
theorem clone_eq (l : List Int) (h : l.length ≤ 1000000) : slices_Clone_byte_byte.f l = some l := by
  unfold slices_Clone_byte_byte.f
  simp only [Option.bind_some, List.length_nil, List.nil_append]
  rw [if_pos (by omega)]

/-! ### layer 05: runs, as lists -/
/-- How many of a row stand first that are c. -/
def lk (c : Int) : List Int → Nat
  | [] => 0
  | x :: r => if x = c then lk c r + 1 else 0
theorem lk_le (c : Int) : ∀ l, lk c l ≤ l.length
  | [] => Nat.le_refl _
  | x :: r => by
    unfold lk
    split
    · exact Nat.succ_le_succ (lk_le c r)
    · exact Nat.zero_le _
/-- How many bytes stand ahead of the next run. -/
def btw : List Int → Nat
  | [] => 0
  | c :: r => if 3 ≤ lk c r + 1 then 0 else lk c r + 1 + btw (r.drop (lk c r))
termination_by l => l.length
decreasing_by simp only [List.length_drop, List.length_cons]; omega
theorem btw_nil : btw [] = 0 := by rw [btw]
theorem btw_cons (c : Int) (r : List Int) : btw (c :: r) = if 3 ≤ lk c r + 1 then 0 else lk c r + 1 + btw (r.drop (lk c r)) := by rw [btw]
theorem btw_le : ∀ (n : Nat) (l : List Int), l.length ≤ n → btw l ≤ l.length := by
  intro n
  induction n with
  | zero =>
    intro l hl
    obtain rfl := List.eq_nil_of_length_eq_zero (Nat.le_zero.1 hl)
    rw [btw_nil]; exact Nat.zero_le _
  | succ n ih =>
    intro l hl
    cases l with
    | nil => rw [btw_nil]; exact Nat.zero_le _
    | cons c r =>
      rw [btw_cons]
      split
      · exact Nat.zero_le _
      · have h1 := ih (r.drop (lk c r)) (by rw [List.length_drop]; simp only [List.length_cons] at hl; omega)
        rw [List.length_drop] at h1
        have h2 := lk_le c r
        simp only [List.length_cons]
        omega
/-- What bytes are laid as. -/
def E : List Int → List Int
  | [] => []
  | c :: r => if h : btw (c :: r) = 0 then enc (2 * (lk c r + 1 - 3) + 1) ++ c :: E (r.drop (lk c r)) else enc (2 * (btw (c :: r) - 1)) ++ ((c :: r).take (btw (c :: r)) ++ E ((c :: r).drop (btw (c :: r))))
termination_by l => l.length
decreasing_by
  · simp only [List.length_drop, List.length_cons]; omega
  · simp only [List.length_drop, List.length_cons]; omega
theorem E_nil : E [] = [] := by rw [E]
theorem E_run {c : Int} {r : List Int} (h : btw (c :: r) = 0) : E (c :: r) = enc (2 * (lk c r + 1 - 3) + 1) ++ c :: E (r.drop (lk c r)) := by rw [E, dif_pos h]
theorem E_lit {c : Int} {r : List Int} (h : btw (c :: r) ≠ 0) : E (c :: r) = enc (2 * (btw (c :: r) - 1)) ++ ((c :: r).take (btw (c :: r)) ++ E ((c :: r).drop (btw (c :: r)))) := by rw [E, dif_neg h]
theorem run_of {c : Int} {r : List Int} (h : btw (c :: r) = 0) : 3 ≤ lk c r + 1 := by
  rw [btw_cons] at h
  split at h
  · assumption
  · omega
theorem rd_zero (c : Int) (r : List Int) : rd (c :: r) 0 = c := rfl
theorem like_loop (c : Int) (r : List Int) (hl : (c :: r).length ≤ 100000) (d : Nat) : ∀ (K m : Nat), m ≤ (c :: r).length → (c :: r).length - m = d → d < K → runs_like.l0 K (c :: r) (m : Int) = some ((m + lk c ((c :: r).drop m) : Nat) : Int) := by
  induction d with
  | zero =>
    intro K m h1 h2 hK
    obtain ⟨K, rfl⟩ : ∃ q, K = q + 1 := ⟨K - 1, by omega⟩
    simp only [runs_like.l0]
    rw [if_neg (by omega), List.drop_eq_nil_of_le (by omega)]
    simp [lk]
  | succ d ih =>
    intro K m h1 h2 hK
    have h3 : m < (c :: r).length := by omega
    obtain ⟨K, rfl⟩ : ∃ q, K = q + 1 := ⟨K - 1, by omega⟩
    simp only [runs_like.l0]
    rw [if_pos (by omega), if_pos (by omega), if_pos (by simp only [List.length_cons]; omega), rd_at _ m h3, rd_zero, List.drop_eq_getElem_cons h3]
    unfold lk
    by_cases e : (c :: r)[m] = c
    · rw [if_pos e, if_pos e, show wrap64 ((m : Int) + 1) = ((m + 1 : Nat) : Int) by rw [w64 (by omega) (by omega)]; omega, ih K (m + 1) (by omega) (by omega) (by omega)]
      congr 2
      omega
    · rw [if_neg e, if_neg e]
      rfl
theorem like_eq (c : Int) (r : List Int) (hl : (c :: r).length ≤ 100000) (K : Nat) (hK : (c :: r).length ≤ K) : runs_like.f K (c :: r) = some ((lk c r + 1 : Nat) : Int) := by
  unfold runs_like.f
  have h := like_loop c r hl ((c :: r).length - 1) K 1 (by simp only [List.length_cons]; omega) rfl (by simp only [List.length_cons] at hK ⊢; omega)
  rw [show (1 : Int) = ((1 : Nat) : Int) from rfl, h]
  congr 2
  simp only [List.drop_succ_cons, List.drop_zero]
  omega
theorem between_loop (b : List Int) (hl : b.length ≤ 100000) (d : Nat) : ∀ (K m : Nat), m ≤ b.length → b.length - m ≤ d → b.length + d < K → runs_between.l0 K b (m : Int) = some ((m + btw (b.drop m) : Nat) : Int) := by
  induction d with
  | zero =>
    intro K m h1 h2 hK
    obtain ⟨K, rfl⟩ : ∃ q, K = q + 1 := ⟨K - 1, by omega⟩
    simp only [runs_between.l0]
    rw [if_neg (by omega), List.drop_eq_nil_of_le (by omega), btw_nil]
    rfl
  | succ d ih =>
    intro K m h1 h2 hK
    obtain ⟨K, rfl⟩ : ∃ q, K = q + 1 := ⟨K - 1, by omega⟩
    simp only [runs_between.l0]
    by_cases h3 : m < b.length
    · rw [if_pos (by omega), if_pos (by omega), if_pos (by omega), Int.toNat_natCast, List.drop_eq_getElem_cons h3]
      have h4 : (b[m] :: b.drop (m + 1)).length = b.length - m := by simp only [List.length_cons, List.length_drop]; omega
      rw [like_eq _ _ (by rw [h4]; omega) K (by rw [h4]; omega)]
      simp only [Option.bind_some]
      rw [btw_cons]
      have h5 := lk_le b[m] (b.drop (m + 1))
      rw [List.length_drop] at h5
      by_cases e : 3 ≤ lk b[m] (b.drop (m + 1)) + 1
      · rw [if_pos e, if_pos (by omega)]
        rfl
      · rw [if_neg e, if_neg (by omega), show wrap64 ((m : Int) + ((lk b[m] (b.drop (m + 1)) + 1 : Nat) : Int)) = ((m + (lk b[m] (b.drop (m + 1)) + 1) : Nat) : Int) by rw [w64 (by omega) (by omega)]; omega, ih K _ (by omega) (by omega) (by omega), List.drop_drop]
        congr 2
        rw [show m + 1 + lk b[m] (b.drop (m + 1)) = m + (lk b[m] (b.drop (m + 1)) + 1) by omega]
        omega
    · rw [if_neg (by omega), List.drop_eq_nil_of_le (by omega), btw_nil]
      rfl
theorem between_eq (b : List Int) (hl : b.length ≤ 100000) (K : Nat) (hK : 2 * b.length < K) : runs_between.f K b = some ((btw b : Nat) : Int) := by
  unfold runs_between.f
  have h := between_loop b hl b.length K 0 (by omega) (by omega) (by omega)
  rw [show (0 : Int) = ((0 : Nat) : Int) from rfl, h, List.drop_zero, Nat.zero_add]
theorem put_eq (v : Nat) (hv : v < 18446744073709551616) (K : Nat) (hK : 20 ≤ K) : varint_Put.f K [] [(v : Int)] = some (enc v) := by
  unfold varint_Put.f
  rw [if_pos (.inl rfl), clone_eq [] (by simp)]
  simp only [Option.bind_some]
  have h := put_all [(v : Int)] (fun x hx => by rw [List.mem_singleton.1 hx]; unfold isU64; omega) (by simp) 1 K 0 [] (by simp) (by simp) (by omega) (by simp)
  rw [show (0 : Int) = ((0 : Nat) : Int) from rfl, h]
  simp [flat]
theorem odd_or (n : Nat) (h : 2 * n < 18446744073709551616) : Go.bits .or .u64 ((2 * n : Nat) : Int) 1 = ((2 * n + 1 : Nat) : Int) := by
  have e := Go.u64_or_nat (2 * n) 1 (by omega) (by omega)
  rw [show (1 : Int) = ((1 : Nat) : Int) from rfl, e, Go.nat_join 1 (2 * n) 1 (by omega) (by omega)]
theorem encode_loop (d : Nat) : ∀ (b : List Int) (K : Nat) (out : List Int), b.length ≤ d → b.length ≤ 100000 → 3 * d + 40 ≤ K → out.length + 20 * b.length ≤ 10000000 → runs_Encode.l0 K b out = some (out ++ E b) := by
  induction d with
  | zero =>
    intro b K out h1 h2 hK ho
    obtain rfl := List.eq_nil_of_length_eq_zero (Nat.le_zero.1 h1)
    obtain ⟨K, rfl⟩ : ∃ q, K = q + 1 := ⟨K - 1, by omega⟩
    simp only [runs_Encode.l0]
    rw [if_neg (by simp), E_nil, List.append_nil]
  | succ d ih =>
    intro b K out h1 h2 hK ho
    obtain ⟨K, rfl⟩ : ∃ q, K = q + 1 := ⟨K - 1, by omega⟩
    simp only [runs_Encode.l0]
    cases b with
    | nil => rw [if_neg (by simp), E_nil, List.append_nil]
    | cons c r =>
      have hp : (0 : Int) < ((c :: r).length : Int) := by simp only [List.length_cons]; omega
      rw [if_pos hp, between_eq _ h2 K (by omega)]
      simp only [Option.bind_some]
      by_cases hb : btw (c :: r) = 0
      · have h3 := run_of hb
        have h4 := lk_le c r
        have hp' := hp
        simp only [List.length_cons] at h1 h2 hp' ho
        rw [hb, if_pos (by rfl), like_eq c r h2 K (by simp only [List.length_cons]; omega)]
        simp only [Option.bind_some]
        have e1 : wrap64 (((lk c r + 1 : Nat) : Int) - 3) = ((lk c r + 1 - 3 : Nat) : Int) := by rw [w64 (by omega) (by omega)]; omega
        have e2 : IntKind.u64.wrap (IntKind.u64.wrap ((lk c r + 1 - 3 : Nat) : Int) * 2) = ((2 * (lk c r + 1 - 3) : Nat) : Int) := by rw [u64w (n := ((lk c r + 1 - 3 : Nat) : Int)) (by omega) (by omega), u64w (by omega) (by omega)]; omega
        rw [e1, e2, odd_or _ (by omega), put_eq _ (by omega) K (by omega)]
        simp only [Option.bind_some]
        have h5 := enc_ten (2 * (lk c r + 1 - 3) + 1) (by omega)
        rw [if_pos (by omega), if_pos hp, if_pos (by simp only [List.length_append, List.length_singleton]; omega), if_pos (by omega), if_pos (by simp only [List.length_cons]; omega), rd_zero, Int.toNat_natCast, List.drop_succ_cons, ih _ K _ (by rw [List.length_drop]; omega) (by rw [List.length_drop]; omega) (by omega) (by simp only [List.length_append, List.length_singleton, List.length_drop]; omega), E_run hb]
        simp only [List.append_assoc, List.singleton_append]
      · have h4 := btw_le _ (c :: r) (Nat.le_refl _)
        rw [if_neg (by omega)]
        have e1 : wrap64 (((btw (c :: r) : Nat) : Int) - 1) = ((btw (c :: r) - 1 : Nat) : Int) := by rw [w64 (by omega) (by omega)]; omega
        have e2 : IntKind.u64.wrap (IntKind.u64.wrap ((btw (c :: r) - 1 : Nat) : Int) * 2) = ((2 * (btw (c :: r) - 1) : Nat) : Int) := by rw [u64w (n := ((btw (c :: r) - 1 : Nat) : Int)) (by omega) (by omega), u64w (by omega) (by omega)]; omega
        rw [e1, e2, put_eq _ (by omega) K (by omega)]
        simp only [Option.bind_some]
        have h5 := enc_ten (2 * (btw (c :: r) - 1)) (by omega)
        have h6 : ((c :: r).take (btw (c :: r))).length = btw (c :: r) := by rw [List.length_take]; omega
        rw [if_pos (by omega), if_pos (by omega), if_pos (by omega), Int.toNat_natCast, if_pos (by rw [List.length_append]; omega), ih _ K _ (by rw [List.length_drop]; omega) (by rw [List.length_drop]; omega) (by omega) (by rw [List.length_append, List.length_append, List.length_drop, h6]; omega), E_lit hb]
        simp only [List.append_assoc]
theorem encode_eq (b : List Int) (hl : b.length ≤ 100000) (K : Nat) (hK : 3 * b.length + 40 ≤ K) : runs_Encode.f K b = some (E b) := by
  unfold runs_Encode.f
  rw [encode_loop b.length b K [] (Nat.le_refl _) hl hK (by simp only [List.length_nil]; omega), List.nil_append]

theorem small_all (k : Nat) (hk : 200 ≤ k) : decklelaw05_small.f k = some true :=
  at_rounds (g := fun k => decklelaw05_small.f k) (fun k => decklelaw05_small.mono k) hk (by decide +kernel)

theorem lk_cons (x y : Int) (a : List Int) : lk x (y :: a) = if y = x then lk x a + 1 else 0 := rfl
theorem lk_app (x : Int) (R : List Int) : ∀ a : List Int, (lk x a = a.length → lk x R = 0) → lk x (a ++ R) = lk x a
  | [], h => by rw [List.nil_append]; exact h rfl
  | y :: a, h => by
    rw [List.cons_append, lk_cons, lk_cons]
    rw [lk_cons] at h
    by_cases e : y = x
    · rw [if_pos e] at h
      rw [if_pos e, if_pos e, lk_app x R a (fun h2 => h (by rw [h2, List.length_cons]))]
    · rw [if_neg e, if_neg e]
theorem lk_full (x : Int) : ∀ a : List Int, lk x a = a.length → (x :: a).getLast? = some x
  | [], _ => rfl
  | y :: a, h => by
    unfold lk at h
    by_cases e : y = x
    · rw [if_pos e, List.length_cons] at h
      subst e
      rw [List.getLast?_cons_cons]
      exact lk_full y a (by omega)
    · rw [if_neg e, List.length_cons] at h; omega
theorem last_drop (x : Int) (a : List Int) (k : Nat) (c : Int) (h : (x :: a).getLast? ≠ some c) : (a.drop k).getLast? ≠ some c := by
  rw [List.getLast?_drop]
  by_cases hk : a.length ≤ k
  · rw [if_pos hk]; simp
  · rw [if_neg hk]
    cases a with
    | nil => simp at hk
    | cons y a => rwa [List.getLast?_cons_cons] at h
/-- R begins with a run of c. -/
theorem btw_app (c : Int) (R : List Int) (h0 : btw R = 0) (hR : ∀ x, x ≠ c → lk x R = 0) (m : Nat) : ∀ a : List Int, a.length ≤ m → a.getLast? ≠ some c → btw (a ++ R) = btw a := by
  induction m with
  | zero =>
    intro a hl _
    obtain rfl := List.eq_nil_of_length_eq_zero (Nat.le_zero.1 hl)
    rw [List.nil_append, btw_nil, h0]
  | succ m ih =>
    intro a hl ha
    cases a with
    | nil => rw [List.nil_append, btw_nil, h0]
    | cons x a =>
      have hk : lk x (a ++ R) = lk x a := lk_app x R a (fun h => hR x (fun e => ha (by rw [lk_full x a h, e])))
      rw [List.cons_append, btw_cons, btw_cons, hk, List.drop_append_of_le_length (lk_le x a), ih (a.drop (lk x a)) (by rw [List.length_drop]; simp only [List.length_cons] at hl; omega) (last_drop x a _ c ha)]
theorem E_app (c : Int) (R : List Int) (h0 : btw R = 0) (hR : ∀ x, x ≠ c → lk x R = 0) (m : Nat) : ∀ a : List Int, a.length ≤ m → a.getLast? ≠ some c → E (a ++ R) = E a ++ E R := by
  induction m with
  | zero =>
    intro a hl _
    obtain rfl := List.eq_nil_of_length_eq_zero (Nat.le_zero.1 hl)
    rw [List.nil_append, E_nil, List.nil_append]
  | succ m ih =>
    intro a hl ha
    cases a with
    | nil => rw [List.nil_append, E_nil, List.nil_append]
    | cons x a =>
      have hk : lk x (a ++ R) = lk x a := lk_app x R a (fun h => hR x (fun e => ha (by rw [lk_full x a h, e])))
      have hbt := btw_app c R h0 hR (m + 1) (x :: a) hl ha
      have hle := btw_le _ (x :: a) (Nat.le_refl _)
      by_cases hb : btw (x :: a) = 0
      · have hb2 : btw (x :: (a ++ R)) = 0 := by rw [← List.cons_append, hbt, hb]
        rw [List.cons_append, E_run hb2, E_run hb, hk, List.drop_append_of_le_length (lk_le x a), ih (a.drop (lk x a)) (by rw [List.length_drop]; simp only [List.length_cons] at hl; omega) (last_drop x a _ c ha)]
        simp only [List.append_assoc, List.cons_append]
      · have hb2 : btw (x :: (a ++ R)) ≠ 0 := by rw [← List.cons_append, hbt]; exact hb
        have hd : ((x :: a).drop (btw (x :: a))).getLast? ≠ some c := by
          obtain ⟨k, hk2⟩ : ∃ q, btw (x :: a) = q + 1 := ⟨btw (x :: a) - 1, by omega⟩
          rw [hk2, List.drop_succ_cons]
          exact last_drop x a _ c ha
        rw [List.cons_append, E_lit hb2, E_lit hb, ← List.cons_append, hbt, List.drop_append_of_le_length hle, List.take_append_of_le_length hle, ih _ (by rw [List.length_drop]; omega) hd]
        simp only [List.append_assoc]
theorem lk_rep (c : Int) (R : List Int) (h : lk c R = 0) : ∀ n : Nat, lk c (List.replicate n c ++ R) = n
  | 0 => h
  | n + 1 => by
    rw [List.replicate_succ, List.cons_append]
    unfold lk
    rw [if_pos rfl, lk_rep c R h n]
theorem rep_run (c : Int) (R : List Int) (h : lk c R = 0) (n : Nat) (hn : 3 ≤ n) : btw (List.replicate n c ++ R) = 0 ∧ E (List.replicate n c ++ R) = enc (2 * (n - 3) + 1) ++ c :: E R := by
  obtain ⟨n, rfl⟩ : ∃ q, n = q + 1 := ⟨n - 1, by omega⟩
  have hl := lk_rep c R h n
  have hb : btw (c :: (List.replicate n c ++ R)) = 0 := by rw [btw_cons, hl, if_pos hn]
  rw [List.replicate_succ, List.cons_append]
  refine ⟨hb, ?_⟩
  rw [E_run hb, hl, List.drop_left' List.length_replicate]
theorem rep_other (c x : Int) (R : List Int) (n : Nat) (hn : 3 ≤ n) (hx : x ≠ c) : lk x (List.replicate n c ++ R) = 0 := by
  obtain ⟨n, rfl⟩ : ∃ q, n = q + 1 := ⟨n - 1, by omega⟩
  rw [List.replicate_succ, List.cons_append]
  unfold lk
  rw [if_neg (fun e => hx e.symm)]
theorem E_parts (a b : List Int) (c : Int) (n : Nat) (hn : 3 ≤ n) (ha : a.getLast? ≠ some c) (hb : b.head? ≠ some c) : E (a ++ List.replicate n c ++ b) = E a ++ E (List.replicate n c) ++ E b := by
  have h1 : lk c b = 0 := by
    cases b with
    | nil => rfl
    | cons y b =>
      unfold lk
      rw [if_neg (fun e => hb (by rw [e]; rfl))]
  obtain ⟨g1, g2⟩ := rep_run c b h1 n hn
  obtain ⟨_, g3⟩ := rep_run c [] rfl n hn
  rw [List.append_nil] at g3
  rw [List.append_assoc, E_app c _ g1 (fun x hx => rep_other c x b n hn hx) a.length a (Nat.le_refl _) ha, g2, g3, E_nil]
  simp only [List.append_assoc, List.cons_append, List.nil_append]
theorem E_len (m : Nat) : ∀ b : List Int, b.length ≤ m → b.length ≤ 10000 → (E b).length ≤ 11 * b.length := by
  induction m with
  | zero =>
    intro b hl _
    obtain rfl := List.eq_nil_of_length_eq_zero (Nat.le_zero.1 hl)
    rw [E_nil]
    exact Nat.zero_le _
  | succ m ih =>
    intro b hl hm
    cases b with
    | nil =>
      rw [E_nil]
      exact Nat.zero_le _
    | cons c r =>
      by_cases hb : btw (c :: r) = 0
      · have h4 := lk_le c r
        simp only [List.length_cons] at hl hm
        have i2 := ih (r.drop (lk c r)) (by rw [List.length_drop]; omega) (by rw [List.length_drop]; omega)
        have h5 := enc_ten (2 * (lk c r + 1 - 3) + 1) (by omega)
        rw [E_run hb]
        rw [List.length_drop] at i2
        simp only [List.length_append, List.length_cons]
        omega
      · have h4 := btw_le _ (c :: r) (Nat.le_refl _)
        have i2 := ih ((c :: r).drop (btw (c :: r))) (by rw [List.length_drop]; omega) (by rw [List.length_drop]; omega)
        have h5 := enc_ten (2 * (btw (c :: r) - 1)) (by omega)
        rw [E_lit hb]
        rw [List.length_drop] at i2
        simp only [List.length_append, List.length_take]
        omega

def NoRun (l : List Int) : Prop := ∀ i : Nat, i + 2 < l.length → ¬ (l.getD (i + 2) 0 = l.getD (i + 1) 0 ∧ l.getD (i + 2) 0 = l.getD i 0)
theorem NoRun.drop {l : List Int} (h : NoRun l) (k : Nat) : NoRun (l.drop k) := by
  intro i hi
  rw [List.length_drop] at hi
  have := h (k + i) (by omega)
  simp only [List.getD_eq_getElem?_getD, List.getElem?_drop] at this ⊢
  exact this
theorem norun_btw (m : Nat) : ∀ l : List Int, l.length ≤ m → NoRun l → btw l = l.length := by
  induction m with
  | zero =>
    intro l hl _
    obtain rfl := List.eq_nil_of_length_eq_zero (Nat.le_zero.1 hl)
    exact btw_nil
  | succ m ih =>
    intro l hl h
    cases l with
    | nil => exact btw_nil
    | cons c r =>
      have h3 : ¬ 3 ≤ lk c r + 1 := by
        intro h3
        cases r with
        | nil => simp [lk] at h3
        | cons x r =>
          rw [lk_cons] at h3
          by_cases e : x = c
          · rw [if_pos e] at h3
            cases r with
            | nil => simp [lk] at h3
            | cons y r =>
              rw [lk_cons] at h3
              by_cases e2 : y = c
              · exact h 0 (by simp only [List.length_cons]; omega) ⟨by rw [e, e2]; rfl, by rw [e2]; rfl⟩
              · rw [if_neg e2] at h3; omega
          · rw [if_neg e] at h3; omega
      have h4 := lk_le c r
      have h5 := h.drop (lk c r + 1)
      rw [List.drop_succ_cons] at h5
      rw [btw_cons, if_neg h3, ih _ (by rw [List.length_drop]; simp only [List.length_cons] at hl; omega) h5, List.length_drop, List.length_cons]
      omega
theorem norun_E (b : List Int) (hp : 0 < b.length) (h : NoRun b) : E b = enc (2 * (b.length - 1)) ++ b := by
  have hb := norun_btw b.length b (Nat.le_refl _) h
  cases b with
  | nil => cases hp
  | cons c r =>
    rw [E_lit (by rw [hb]; exact Nat.succ_ne_zero _), hb, List.take_length, List.drop_length, E_nil, List.append_nil]
theorem short_l1 (b : List Int) (h1 : 1 ≤ b.length) (h2 : b.length ≤ 1000) (d : Nat) : ∀ (K m : Nat), 2 ≤ m → b.length ≤ m + d → (m ≤ b.length ∨ m = 2) → 20000 + d ≤ K → (∀ i : Nat, i + 2 < b.length → i + 2 < m → ¬ (b.getD (i + 2) 0 = b.getD (i + 1) 0 ∧ b.getD (i + 2) 0 = b.getD i 0)) → decklelaw05_RunsShort.l1 K b true (m : Int) = some true := by
  induction d with
  | zero =>
    intro K m h3 h4 h5 hK hn
    obtain ⟨K, rfl⟩ : ∃ q, K = q + 1 := ⟨K - 1, by omega⟩
    have e1 : IntKind.u64.wrap (2 * IntKind.u64.wrap (wrap64 ((b.length : Int) - 1))) = ((2 * (b.length - 1) : Nat) : Int) := by
      rw [w64 (by omega) (by omega), u64w (n := (b.length : Int) - 1) (by omega) (by omega), u64w (by omega) (by omega)]; omega
    have h6 := enc_ten (2 * (b.length - 1)) (by omega)
    rw [decklelaw05_RunsShort.l1, if_neg (by omega), if_pos rfl, encode_eq b (by omega) K (by omega), Option.bind_some, e1, put_eq _ (by omega) K (by omega), Option.bind_some, if_pos (by omega), norun_E b h1 (fun i hi => hn i hi (by omega)), beq_self_eq_true]
  | succ d ih =>
    intro K m h3 h4 h5 hK hn
    obtain ⟨K, rfl⟩ : ∃ q, K = q + 1 := ⟨K - 1, by omega⟩
    by_cases hlt : m < b.length
    · have e1 : wrap64 ((m : Int) - 1) = ((m - 1 : Nat) : Int) := by rw [w64 (by omega) (by omega)]; omega
      have e2 : wrap64 ((m : Int) - 2) = ((m - 2 : Nat) : Int) := by rw [w64 (by omega) (by omega)]; omega
      have e3 : wrap64 ((m : Int) + 1) = ((m + 1 : Nat) : Int) := by rw [w64 (by omega) (by omega)]; omega
      have go : ¬ (b.getD m 0 = b.getD (m - 1) 0 ∧ b.getD m 0 = b.getD (m - 2) 0) → decklelaw05_RunsShort.l1 K b true ((m + 1 : Nat) : Int) = some true := by
        intro hne
        refine ih K (m + 1) (by omega) (by omega) (.inl (by omega)) (by omega) (fun i hi hi2 => ?_)
        by_cases e : i + 2 < m
        · exact hn i hi e
        · obtain rfl : m = i + 2 := by omega
          exact hne
      rw [decklelaw05_RunsShort.l1, if_pos (by omega), if_pos (by omega), e1, if_pos (by omega), if_pos (by omega)]
      unfold rd
      rw [Int.toNat_natCast, Int.toNat_natCast]
      by_cases c1 : b.getD m 0 = b.getD (m - 1) 0
      · rw [if_pos c1, e2, if_pos (by omega), if_pos (by omega), Int.toNat_natCast]
        by_cases c2 : b.getD m 0 = b.getD (m - 2) 0
        · rw [if_pos c2]
        · rw [if_neg c2, e3]
          exact go (fun h => c2 h.2)
      · rw [if_neg c1, e3]
        exact go (fun h => c1 h.1)
    · have e1 : IntKind.u64.wrap (2 * IntKind.u64.wrap (wrap64 ((b.length : Int) - 1))) = ((2 * (b.length - 1) : Nat) : Int) := by
        rw [w64 (by omega) (by omega), u64w (n := (b.length : Int) - 1) (by omega) (by omega), u64w (by omega) (by omega)]; omega
      have h6 := enc_ten (2 * (b.length - 1)) (by omega)
      rw [decklelaw05_RunsShort.l1, if_neg (by omega), if_pos rfl, encode_eq b (by omega) K (by omega), Option.bind_some, e1, put_eq _ (by omega) K (by omega), Option.bind_some, if_pos (by omega), norun_E b h1 (fun i hi => hn i hi (by omega)), beq_self_eq_true]
theorem short_l0 (c n : Int) (b : List Int) (h1 : 1 ≤ b.length) (h2 : b.length ≤ 1000) (h3 : 3 ≤ n) (h5 : n ≤ 5000) (d : Nat) : ∀ (K m : Nat), (m : Int) ≤ n → n.toNat - m = d → 40000 + d ≤ K → decklelaw05_RunsShort.l0 K c n b true (List.replicate m c) (m : Int) = some true := by
  induction d with
  | zero =>
    intro K m h4 h6 hK
    obtain ⟨K, rfl⟩ : ∃ q, K = q + 1 := ⟨K - 1, by omega⟩
    have hm : (m : Int) = n := by omega
    have e1 : IntKind.u64.wrap (IntKind.u64.wrap (2 * IntKind.u64.wrap (wrap64 (n - 3))) + 1) = ((2 * (m - 3) + 1 : Nat) : Int) := by
      rw [w64 (by omega) (by omega), u64w (n := n - 3) (by omega) (by omega), u64w (n := 2 * (n - 3)) (by omega) (by omega), u64w (by omega) (by omega)]; omega
    have h7 := enc_ten (2 * (m - 3) + 1) (by omega)
    obtain ⟨_, g3⟩ := rep_run c [] rfl m (by omega)
    rw [List.append_nil, E_nil] at g3
    rw [decklelaw05_RunsShort.l0, if_neg (by omega), encode_eq _ (by rw [List.length_replicate]; omega) K (by rw [List.length_replicate]; omega), Option.bind_some, e1, put_eq _ (by omega) K (by omega), Option.bind_some, Option.bind_some, if_pos (by simp only [List.length_singleton]; omega), g3, if_pos rfl]
    exact short_l1 b h1 h2 b.length K 2 (by omega) (by omega) (.inr rfl) (by omega) (fun i _ hi => by omega)
  | succ d ih =>
    intro K m h4 h6 hK
    obtain ⟨K, rfl⟩ : ∃ q, K = q + 1 := ⟨K - 1, by omega⟩
    rw [decklelaw05_RunsShort.l0, if_pos (by omega), Option.bind_some, if_pos (by rw [List.length_replicate, List.length_singleton]; omega), show wrap64 ((m : Int) + 1) = ((m + 1 : Nat) : Int) by rw [w64 (by omega) (by omega)]; omega, ← List.replicate_succ']
    exact ih K (m + 1) (by omega) (by omega) (by omega)
theorem short_at (K : Nat) (hK : 50000 ≤ K) (c n : Int) (b : List Int) : decklelaw05_RunsShort.f K c n b = some true := by
  obtain ⟨K, rfl⟩ : ∃ q, K = q + 1 := ⟨K - 1, by omega⟩
  have h0 : decklelaw05_RunsShort.j0 (K + 1) c n b true true = some true := by rw [decklelaw05_RunsShort.j0, if_pos rfl]
  unfold decklelaw05_RunsShort.f
  rw [small_all (K + 1) (by omega), Option.bind_some]
  by_cases h1 : n < 3
  · rw [if_pos h1, h0]
  · by_cases h2 : n > 5000
    · rw [if_neg h1, if_pos h2, h0]
    · by_cases h3 : (b.length : Int) > 1000
      · rw [if_neg h1, if_neg h2, if_pos h3, h0]
      · rw [if_neg h1, if_neg h2, if_neg h3]
        by_cases h4 : (b.length : Int) < 1
        · rw [decide_eq_true h4, h0]
        · rw [decide_eq_false h4, decklelaw05_RunsShort.j0, if_neg (by decide)]
          exact short_l0 c n b (by omega) (by omega) (by omega) (by omega) n.toNat K 0 (by omega) (by omega) (by omega)
theorem RunsShort : decklelaw05_RunsShort.Pure := by
  intro c n b _ _ _ _ _
  exact ⟨50000, short_at 50000 (Nat.le_refl _) c n b⟩

end Go.Proofs.Ytcbalpchfcifeaa.Pure
