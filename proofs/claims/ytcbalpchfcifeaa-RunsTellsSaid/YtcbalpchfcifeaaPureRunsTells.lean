/- Bytes that are encoded, and decoded, as the document says: for all bytes and numbers. -/
import Derived.Test.YtcbalpchfcifeaaHRunsTellsx10
import Derived.KernelRfl
namespace Go.Proofs.Ytcbalpchfcifeaa.Pure
open Go.RowKit Go.Proofs.Ytcbalpchfcifeaa.HRunsTells Go.Proofs.YtcbalpchfcifeaaW.PrintWords Go.Proofs.YtcbalpchfcifeaaW.PrintLast Go.Proofs.YtcbalpchfcifeaaW.PrintMore
set_option linter.unusedVariables false
set_option linter.unusedSimpArgs false

/-! plain facts on numbers as bytes -/
theorem w64 {n : Int} (h1 : -9223372036854775808 ≤ n) (h2 : n ≤ 9223372036854775807) : wrap64 n = n := by unfold wrap64; omega
theorem u64w {n : Int} (h1 : 0 ≤ n) (h2 : n < 18446744073709551616) : IntKind.u64.wrap n = n := by rw [IntKind.wrap_u64]; omega
def isByte (x : Int) : Prop := 0 ≤ x ∧ x ≤ 255
def isU64 (x : Int) : Prop := 0 ≤ x ∧ x ≤ 18446744073709551615
theorem byte_of_wf (b : List Int) (h : ∀ x ∈ b, (Lit.int .u8 x).wf = true) : ∀ x ∈ b, isByte x := fun x hx => by
  have := h x hx
  have e0 : IntKind.u8.min = 0 := by decide
  have e1 : IntKind.u8.max = 255 := by decide
  simp only [Lit.wf, Bool.and_eq_true, decide_eq_true_eq, e0, e1] at this
  exact this
theorem u64_of_wf {x : Int} (h : (Lit.int .u64 x).wf = true) : isU64 x := by
  have e0 : IntKind.u64.min = 0 := by decide
  have e1 : IntKind.u64.max = 18446744073709551615 := by decide
  simp only [Lit.wf, Bool.and_eq_true, decide_eq_true_eq, e0, e1] at h
  exact h
theorem int_of_wf {x : Int} (h : (Lit.int .i64 x).wf = true) : -9223372036854775808 ≤ x ∧ x ≤ 9223372036854775807 := by
  have e0 : IntKind.i64.min = -9223372036854775808 := by decide
  have e1 : IntKind.i64.max = 9223372036854775807 := by decide
  simp only [Lit.wf, Bool.and_eq_true, decide_eq_true_eq, e0, e1] at h
  exact h
theorem rd_at (b : List Int) (m : Nat) (h : m < b.length) : rd b (m : Int) = b[m] := by
  unfold rd
  rw [List.getD_eq_getElem?_getD, Int.toNat_natCast, List.getElem?_eq_getElem h]; rfl

/-- a number's bytes -/
def enc (n : Nat) : List Int := if n < 128 then [(n : Int)] else ((n % 128 + 128 : Nat) : Int) :: enc (n / 128)
termination_by n
decreasing_by omega
theorem enc_small {n : Nat} (h : n < 128) : enc n = [(n : Int)] := by rw [enc, if_pos h]
theorem enc_big {n : Nat} (h : ¬ n < 128) : enc n = ((n % 128 + 128 : Nat) : Int) :: enc (n / 128) := by rw [enc, if_neg h]
theorem enc_pos (n : Nat) : 1 ≤ (enc n).length := by
  by_cases h : n < 128
  · rw [enc_small h]; simp
  · rw [enc_big h]; simp
theorem enc_bytes (n : Nat) : ∀ x ∈ enc n, isByte x := by
  induction n using Nat.strongRecOn with
  | _ n ih =>
    by_cases h : n < 128
    · rw [enc_small h]
      intro x hx
      rw [List.mem_singleton.1 hx]
      exact ⟨by omega, by omega⟩
    · rw [enc_big h]
      intro x hx
      rcases List.mem_cons.1 hx with rfl | hx
      · exact ⟨by omega, by omega⟩
      · exact ih (n / 128) (by omega) x hx
theorem enc_len (k : Nat) : ∀ n, n < 128 ^ (k + 1) → (enc n).length ≤ k + 1 := by
  induction k with
  | zero => intro n h; rw [enc_small (by simpa using h)]; simp
  | succ k ih =>
    intro n h
    by_cases c : n < 128
    · rw [enc_small c]; simp
    · rw [enc_big c, List.length_cons]
      have := ih (n / 128) (Nat.div_lt_of_lt_mul (by rw [Nat.pow_succ] at h; omega))
      omega
theorem enc_ten (n : Nat) (h : n < 18446744073709551616) : (enc n).length ≤ 10 := enc_len 9 n (Nat.lt_of_lt_of_le h (by decide))

/-- what is read: of the bytes that are left, behind k of them -/
def tk : List Int → Nat → Int → Int × Int × Int
  | [], _, _ => (0, 0, 2)
  | c :: r, k, acc => if (k = 9 ∧ c > 1) ∨ (k > 0 ∧ c = 0) then (0, 0, 3) else if c < 128 then (acc + c * 128 ^ k, (k : Int) + 1, 0) else tk r (k + 1) (acc + (c - 128) * 128 ^ k)

theorem tk_nil (k : Nat) (acc : Int) : tk [] k acc = (0, 0, 2) := rfl
theorem tk_cons (c : Int) (r : List Int) (k : Nat) (acc : Int) : tk (c :: r) k acc = if (k = 9 ∧ c > 1) ∨ (k > 0 ∧ c = 0) then (0, 0, 3) else if c < 128 then (acc + c * 128 ^ k, (k : Int) + 1, 0) else tk r (k + 1) (acc + (c - 128) * 128 ^ k) := rfl
theorem p9 : (128 : Int) ^ 9 = 9223372036854775808 := by decide

theorem pow_le9 (k : Nat) (h : k ≤ 8) : (128 : Int) ^ k * 128 ≤ 9223372036854775808 ∧ 1 ≤ (128 : Int) ^ k := by
  match k, h with
  | 0, _ => decide
  | 1, _ => decide
  | 2, _ => decide
  | 3, _ => decide
  | 4, _ => decide
  | 5, _ => decide
  | 6, _ => decide
  | 7, _ => decide
  | 8, _ => decide
theorem shl_pow (k : Nat) (h : k ≤ 9) (c : Int) (h0 : 0 ≤ c) (h1 : c * 128 ^ k < 18446744073709551616) : shl .u64 c (wrap64 (7 * (k : Int))) = c * 128 ^ k := by
  rw [w64 (by omega) (by omega)]
  unfold shl
  rw [show (7 * (k : Int)).toNat = 7 * k by omega, Nat.min_eq_left (by show 7 * k ≤ 64; omega)]
  have e : (2 : Int) ^ (7 * k) = 128 ^ k := by rw [Int.pow_mul]; rfl
  rw [e]
  exact u64w (Int.mul_nonneg h0 (Int.pow_nonneg (by decide))) h1
theorem andNot128 (c : Int) (h : isByte c) : Go.bits .andNot .u8 c 128 = c % 128 := by
  obtain ⟨n, rfl⟩ := Int.eq_ofNat_of_zero_le h.1
  have h2 := h.2
  have e := Go.u8_andNot_nat n 128 (by omega) (by omega)
  rw [show (255 - 128 : Nat) = 127 from rfl, Go.nat_mask7] at e
  rw [show (128 : Int) = ((128 : Nat) : Int) from rfl, e]; omega
theorem or_low (k : Nat) (h : k ≤ 9) (acc c : Int) (h0 : 0 ≤ acc) (h1 : acc < 128 ^ k) (h2 : 0 ≤ c) (h3 : acc + c * 128 ^ k < 18446744073709551616) : Go.bits .or .u64 acc (c * 128 ^ k) = acc + c * 128 ^ k := by
  obtain ⟨a, rfl⟩ := Int.eq_ofNat_of_zero_le h0
  obtain ⟨m, rfl⟩ := Int.eq_ofNat_of_zero_le h2
  have e1 : ((m : Int) * 128 ^ k) = ((m * 128 ^ k : Nat) : Int) := by push_cast; rfl
  rw [e1] at h3 ⊢
  have h4 : a < 128 ^ k := by exact_mod_cast h1
  have e := Go.u64_or_nat a (m * 128 ^ k) (by omega) (by omega)
  have e2 : (128 : Nat) ^ k = 2 ^ (7 * k) := by rw [Nat.pow_mul]
  rw [e, Nat.or_comm, Go.nat_join (7 * k) (m * 128 ^ k) a (by rw [e2]; exact Nat.mul_mod_left _ _) (by rw [← e2]; exact h4)]
  push_cast; omega

theorem take_loop (b : List Int) (hb : ∀ x ∈ b, isByte x) (hl : b.length ≤ 100000) (d : Nat) : ∀ (K m : Nat) (acc : Int), m ≤ 9 → m ≤ b.length → 9 - m = d → 3 * d + 4 ≤ K → 0 ≤ acc → acc < 128 ^ m →
    varint_Take.l0 K acc b (b.length : Int) (m : Int) = some (tk (b.drop m) m acc) := by
  induction d with
  | zero =>
    intro K m acc h9 hm hd hK h0 h1
    have e9 : m = 9 := by omega
    subst e9
    obtain ⟨K, rfl⟩ : ∃ q, K = q + 3 := ⟨K - 3, by omega⟩
    simp only [varint_Take.l0]
    by_cases c : (9 : Nat) < b.length
    · have hc := hb _ (List.getElem_mem c)
      rw [if_pos (by omega), if_pos (by omega), if_pos (by omega), if_pos (by omega), rd_at b 9 c, List.drop_eq_getElem_cons c]
      rw [tk_cons]
      by_cases g : b[9] > 1
      · rw [decide_eq_true g]
        simp only [varint_Take.j1, varint_Take.j2, if_true]
        rw [if_pos (.inl ⟨trivial, g⟩)]
      · rw [decide_eq_false g]
        simp only [varint_Take.j1]
        rw [if_neg (by simp), if_pos (by omega)]
        unfold isByte at hc
        by_cases z : b[9] = 0
        · simp only [varint_Take.j2, z]
          rw [if_pos (by simp), if_pos (.inr ⟨by omega, trivial⟩)]
        · have e1 : b[9] = 1 := by omega
          simp only [varint_Take.j2, e1]
          have hp9 := p9
          rw [if_neg (by simp), if_pos (by rw [w64 (by omega) (by omega)]; omega), if_pos (by decide), if_neg (by omega), if_pos (by decide), andNot128 1 ⟨by decide, by decide⟩, show IntKind.u64.wrap (1 % 128) = 1 from by decide,
            shl_pow 9 (by omega) 1 (by decide) (by omega), or_low 9 (by omega) acc 1 h0 h1 (by decide) (by omega), w64 (by omega) (by omega)]
    · rw [if_neg (by omega), List.drop_eq_nil_of_le (by omega)]
      simp [tk]
  | succ d ih =>
    intro K m acc h9 hm hd hK h0 h1
    obtain ⟨K, rfl⟩ : ∃ q, K = q + 3 := ⟨K - 3, by omega⟩
    have hp := pow_le9 m (by omega)
    simp only [varint_Take.l0]
    by_cases c : m < b.length
    · have hc := hb _ (List.getElem_mem c)
      unfold isByte at hc
      have hw : wrap64 ((m : Int) + 1) = ((m + 1 : Nat) : Int) := by rw [w64 (by omega) (by omega)]; omega
      rw [if_pos (by omega), if_pos (by omega), if_pos (by omega), if_neg (by omega), rd_at b m c, List.drop_eq_getElem_cons c]
      simp only [varint_Take.j1]
      rw [tk_cons]
      rw [if_neg (by simp)]
      by_cases z : m > 0 ∧ b[m] = 0
      · rw [if_pos (by omega), z.2]
        simp only [varint_Take.j2]
        rw [if_pos (by simp), if_pos (.inr ⟨z.1, trivial⟩)]
      · have hno : ¬ ((m = 9 ∧ b[m] > 1) ∨ (m > 0 ∧ b[m] = 0)) := by omega
        rw [if_neg hno]
        have hj : (if (m : Int) > 0 then varint_Take.j2 (K + 1) acc (m : Int) b[m] b (b.length : Int) (m : Int) (b[m] == 0) else varint_Take.j2 (K + 1) acc (m : Int) b[m] b (b.length : Int) (m : Int) false) = varint_Take.j2 (K + 1) acc (m : Int) b[m] b (b.length : Int) (m : Int) false := by
          by_cases q : (m : Int) > 0
          · rw [if_pos q, show (b[m] == 0) = false from by simp; omega]
          · rw [if_neg q]
        rw [hj]
        have hcm : b[m] % 128 * 128 ^ m ≤ 127 * 128 ^ m := Int.mul_le_mul_of_nonneg_right (by omega) (by omega)
        have hcn : 0 ≤ b[m] % 128 * 128 ^ m := Int.mul_nonneg (by omega) (by omega)
        simp only [varint_Take.j2]
        rw [if_neg (by simp), if_pos (by rw [w64 (by omega) (by omega)]; omega), andNot128 _ hc, u64w (by omega) (by omega), shl_pow m (by omega) _ (by omega) (by omega), or_low m (by omega) acc _ h0 h1 (by omega) (by omega), hw]
        by_cases l : b[m] < 128
        · rw [if_pos l, if_pos l, show b[m] % 128 = b[m] by omega]
          congr 2
        · rw [if_neg l, if_neg l]
          have hq : b[m] % 128 = b[m] - 128 := by omega
          have ep : (128 : Int) ^ (m + 1) = 128 ^ m * 128 := Int.pow_succ _ _
          rw [ih K (m + 1) _ (by omega) (by omega) (by omega) (by omega) (by omega) (by rw [ep]; omega), hq]
    · rw [if_neg (by omega), List.drop_eq_nil_of_le (by omega)]
      simp [tk]
theorem take_eq (b : List Int) (hb : ∀ x ∈ b, isByte x) (hl : b.length ≤ 100000) (K : Nat) (hK : 40 ≤ K) : varint_Take.f K b = some (tk b 0 0) := by
  unfold varint_Take.f
  have := take_loop b hb hl 9 K 0 0 (by omega) (by omega) (by omega) (by omega) (by omega) (by decide)
  simpa using this

/-- numbers' bytes, one behind the other -/
def flat (l : List Int) : List Int := l.flatMap fun x => enc x.toNat
theorem or128 (n : Nat) : Go.bits .or .u8 (((n : Int)) % 256) 128 = ((n % 128 + 128 : Nat) : Int) := by
  have e := Go.u8_or_nat (n % 256) 128 (by omega) (by omega)
  have e1 : ((n : Int)) % 256 = ((n % 256 : Nat) : Int) := by omega
  rw [e1, show (128 : Int) = ((128 : Nat) : Int) from rfl, e]
  have key : ∀ v : Fin 256, (v : Nat) ||| 128 = v % 128 + 128 := by decide +kernel
  have := key ⟨n % 256, by omega⟩
  simp only at this
  rw [this]
  congr 1; omega
theorem put_one (n : Nat) : ∀ (K : Nat) (x5 x11 : List Int) (x12 x13 : Int), x5.length + (enc n).length ≤ 1000000 →
    varint_Put.l1 (K + (enc n).length) x5 (n : Int) x11 x12 x13 = varint_Put.l0 K (x5 ++ enc n) x11 x12 (wrap64 (x13 + 1)) := by
  induction n using Nat.strongRecOn with
  | _ n ih =>
    intro K x5 x11 x12 x13 hl
    by_cases h : n < 128
    · rw [enc_small h] at hl ⊢
      simp only [List.length_singleton] at hl ⊢
      simp only [varint_Put.l1]
      rw [if_neg (by omega), if_pos (by omega), show ((n : Int)) % 256 = n by omega]
    · rw [enc_big h] at hl ⊢
      simp only [List.length_cons] at hl ⊢
      rw [show K + ((enc (n / 128)).length + 1) = K + (enc (n / 128)).length + 1 by omega]
      simp only [varint_Put.l1]
      rw [if_pos (by omega), if_pos (by omega), or128, show (n : Int) / 128 = ((n / 128 : Nat) : Int) by omega, ih (n / 128) (by omega) _ _ _ _ _ (by simp; omega)]
      simp
theorem put_all (l : List Int) (hl : ∀ x ∈ l, isU64 x) (hn : l.length ≤ 1000) (d : Nat) : ∀ (K m : Nat) (x5 : List Int), m ≤ l.length → l.length - m = d → 11 * d + 1 ≤ K → x5.length + 10 * d ≤ 100000 →
    varint_Put.l0 K x5 l (l.length : Int) (m : Int) = some (x5 ++ flat (l.drop m)) := by
  induction d with
  | zero =>
    intro K m x5 h1 h2 hK hx
    obtain ⟨K, rfl⟩ : ∃ q, K = q + 1 := ⟨K - 1, by omega⟩
    simp only [varint_Put.l0]
    rw [if_neg (by omega), List.drop_eq_nil_of_le (by omega)]
    simp [flat]
  | succ d ih =>
    intro K m x5 h1 h2 hK hx
    have c : m < l.length := by omega
    have hu := hl _ (List.getElem_mem c)
    unfold isU64 at hu
    have ht := enc_ten l[m].toNat (by omega)
    obtain ⟨K, rfl⟩ : ∃ q, K = q + (enc l[m].toNat).length + 1 := ⟨K - (enc l[m].toNat).length - 1, by omega⟩
    have hw : wrap64 ((m : Int) + 1) = ((m + 1 : Nat) : Int) := by rw [w64 (by omega) (by omega)]; omega
    simp only [varint_Put.l0]
    rw [if_pos (by omega), if_pos (by omega), if_pos (by omega), rd_at l m c]
    have e : l[m] = ((l[m].toNat : Nat) : Int) := by omega
    have key := put_one l[m].toNat K x5 l (l.length : Int) (m : Int) (by omega)
    rw [← e] at key
    rw [key, hw, ih K (m + 1) _ (by omega) (by omega) (by omega) (by rw [List.length_append]; omega), List.drop_eq_getElem_cons c]
    simp only [flat, List.flatMap_cons, List.append_assoc]
theorem tk_enc (n : Nat) : ∀ (k : Nat) (acc : Int) (more : List Int), (n : Int) * 128 ^ k < 18446744073709551616 → (0 < k → 0 < n) → tk (enc n ++ more) k acc = (acc + n * 128 ^ k, (k : Int) + (enc n).length, 0) := by
  induction n using Nat.strongRecOn with
  | _ n ih =>
    intro k acc more hv hk
    have h9 : k = 9 → n ≤ 1 := by
      intro e; subst e
      have e9 : (128 : Int) ^ 9 = 9223372036854775808 := by decide
      rw [e9] at hv; omega
    by_cases h : n < 128
    · rw [enc_small h]
      simp only [List.singleton_append, List.length_singleton]
      rw [tk_cons]
      rw [if_neg (by omega), if_pos (by omega)]
      rfl
    · rw [enc_big h]
      simp only [List.cons_append, List.length_cons]
      rw [tk_cons]
      rw [if_neg (by omega), if_neg (by omega)]
      have ep : (128 : Int) ^ (k + 1) = 128 ^ k * 128 := Int.pow_succ _ _
      have en : (n : Int) * 128 ^ k = ((n % 128 : Nat) : Int) * 128 ^ k + ((n / 128 : Nat) : Int) * 128 ^ (k + 1) := by
        rw [ep, Int.mul_comm (128 ^ k) 128, ← Int.mul_assoc, ← Int.add_mul]
        congr 1; omega
      have hn : 0 ≤ ((n % 128 : Nat) : Int) * 128 ^ k := Int.mul_nonneg (by omega) (Int.pow_nonneg (by decide))
      rw [ih (n / 128) (by omega) (k + 1) _ more (by omega) (by omega), show (((n % 128 + 128 : Nat) : Int) - 128) = ((n % 128 : Nat) : Int) by omega]
      simp only [Prod.mk.injEq, and_true]
      refine ⟨by omega, by push_cast; omega⟩
theorem take_enc (n : Int) (h : isU64 n) (more : List Int) : tk (enc n.toNat ++ more) 0 0 = (n, ((enc n.toNat).length : Int), 0) := by
  unfold isU64 at h
  rw [tk_enc n.toNat 0 0 more (by simp; omega) (by omega)]
  simp; omega
/-- more bytes behind change nothing, if they did not end -/
theorem tk_more (b more : List Int) : ∀ (k : Nat) (acc : Int), (tk b k acc).2.2 ≠ 2 → tk (b ++ more) k acc = tk b k acc := by
  induction b with
  | nil => intro k acc h; exact absurd rfl h
  | cons c r ih =>
    intro k acc h
    rw [tk_cons] at h
    rw [List.cons_append, tk_cons, tk_cons]
    split
    · rfl
    · rename_i h1
      rw [if_neg h1] at h
      split
      · rfl
      · rename_i h2
        rw [if_neg h2] at h
        exact ih _ _ h
theorem tk_short (b : List Int) : ∀ (k : Nat) (acc : Int), k ≤ 9 → (tk b k acc).2.2 = 2 → k + b.length ≤ 9 := by
  induction b with
  | nil => intro k acc hk _; simpa using hk
  | cons c r ih =>
    intro k acc hk h
    rw [tk_cons] at h
    split at h
    · exact absurd h (by simp)
    · rename_i h1
      split at h
      · exact absurd h (by simp)
      · rename_i h2
        have := ih (k + 1) _ (by omega) h
        simp only [List.length_cons]; omega
/-- the errors, and what stands beside them -/
theorem tk_err (b : List Int) : ∀ (k : Nat) (acc : Int), (tk b k acc).2.2 = 0 ∨ tk b k acc = (0, 0, 2) ∨ tk b k acc = (0, 0, 3) := by
  induction b with
  | nil => intro k acc; exact .inr (.inl rfl)
  | cons c r ih =>
    intro k acc
    rw [tk_cons]
    split
    · exact .inr (.inr rfl)
    · split
      · exact .inl rfl
      · exact ih _ _
/-- 2^64 is a multiple of 128^(k+1) -/
theorem le8 {P : Nat → Prop} (h0 : P 0) (h1 : P 1) (h2 : P 2) (h3 : P 3) (h4 : P 4) (h5 : P 5) (h6 : P 6) (h7 : P 7) (h8 : P 8) (k : Nat) (hk : k ≤ 8) : P k := by
  match k, hk with
  | 0, _ => exact h0
  | 1, _ => exact h1
  | 2, _ => exact h2
  | 3, _ => exact h3
  | 4, _ => exact h4
  | 5, _ => exact h5
  | 6, _ => exact h6
  | 7, _ => exact h7
  | 8, _ => exact h8
theorem mult_lt (v : Nat) (k : Nat) (hk : k ≤ 8) (h : (v : Int) * (128 ^ k * 128) < 18446744073709551616) : (v : Int) * (128 ^ k * 128) + 128 ^ k * 128 ≤ 18446744073709551616 := by
  revert h
  refine le8 (P := fun k => (v : Int) * (128 ^ k * 128) < 18446744073709551616 → (v : Int) * (128 ^ k * 128) + 128 ^ k * 128 ≤ 18446744073709551616) ?_ ?_ ?_ ?_ ?_ ?_ ?_ ?_ ?_ k hk
  · intro h; rw [show (128 : Int) ^ 0 * 128 = 128 by decide] at h ⊢; omega
  · intro h; rw [show (128 : Int) ^ 1 * 128 = 16384 by decide] at h ⊢; omega
  · intro h; rw [show (128 : Int) ^ 2 * 128 = 2097152 by decide] at h ⊢; omega
  · intro h; rw [show (128 : Int) ^ 3 * 128 = 268435456 by decide] at h ⊢; omega
  · intro h; rw [show (128 : Int) ^ 4 * 128 = 34359738368 by decide] at h ⊢; omega
  · intro h; rw [show (128 : Int) ^ 5 * 128 = 4398046511104 by decide] at h ⊢; omega
  · intro h; rw [show (128 : Int) ^ 6 * 128 = 562949953421312 by decide] at h ⊢; omega
  · intro h; rw [show (128 : Int) ^ 7 * 128 = 72057594037927936 by decide] at h ⊢; omega
  · intro h; rw [show (128 : Int) ^ 8 * 128 = 9223372036854775808 by decide] at h ⊢; omega
/-- what is read was laid -/
theorem tk_was (b : List Int) (hb : ∀ x ∈ b, isByte x) : ∀ (k : Nat) (acc : Int), k ≤ 9 → (tk b k acc).2.2 = 0 →
    ∃ v : Nat, tk b k acc = (acc + v * 128 ^ k, (k : Int) + (enc v).length, 0) ∧ b.take (enc v).length = enc v ∧ (enc v).length ≤ b.length ∧ (0 < k → 0 < v) ∧ (v : Int) * 128 ^ k < 18446744073709551616 ∧
      ∀ i, i < (enc v).length → ∀ acc', tk (b.take i) k acc' = (0, 0, 2) := by
  induction b with
  | nil => intro k acc _ h; exact absurd h (by simp [tk_nil])
  | cons c r ih =>
    intro k acc hk h
    have hc := hb c (by simp)
    unfold isByte at hc
    rw [tk_cons] at h
    rw [tk_cons]
    split at h
    · exact absurd h (by simp)
    · rename_i h1
      rw [if_neg h1]
      split at h
      · rename_i h2
        rw [if_pos h2]
        have e : c = ((c.toNat : Nat) : Int) := by omega
        have es : enc c.toNat = [c] := by rw [enc_small (by omega), ← e]
        refine ⟨c.toNat, ?_, ?_, ?_, ?_, ?_, ?_⟩
        · rw [es, ← e]; rfl
        · rw [es]; rfl
        · rw [es]; simp
        · omega
        · rw [← e]
          by_cases k9 : k = 9
          · subst k9
            have e9 : (128 : Int) ^ 9 = 9223372036854775808 := by decide
            rw [e9]; omega
          · have hp := pow_le9 k (by omega)
            have hm : c * 128 ^ k ≤ 127 * 128 ^ k := Int.mul_le_mul_of_nonneg_right (by omega) (by omega)
            omega
        · intro i hi acc'
          rw [es] at hi
          have : i = 0 := by simpa using hi
          subst this; rfl
      · rename_i h2
        rw [if_neg h2]
        obtain ⟨v, g1, g2, g3, g4, g5, g6⟩ := ih (fun x hx => hb x (by simp [hx])) (k + 1) _ (by omega) h
        have hv := g4 (by omega)
        have ev : (c.toNat - 128 + 128 * v) / 128 = v := by omega
        have em : (c.toNat - 128 + 128 * v) % 128 = c.toNat - 128 := by omega
        have eb : enc (c.toNat - 128 + 128 * v) = c :: enc v := by
          rw [enc_big (by omega), ev, em]
          congr 1; omega
        have ep : (128 : Int) ^ (k + 1) = 128 ^ k * 128 := Int.pow_succ _ _
        have en : ((c.toNat - 128 + 128 * v : Nat) : Int) * 128 ^ k = (c - 128) * 128 ^ k + (v : Int) * 128 ^ (k + 1) := by
          have e0 : ((c.toNat - 128 + 128 * v : Nat) : Int) = (c - 128) + (v : Int) * 128 := by omega
          rw [e0, Int.add_mul, ep, Int.mul_assoc, Int.mul_comm 128 (128 ^ k)]
        refine ⟨c.toNat - 128 + 128 * v, ?_, ?_, ?_, ?_, ?_, ?_⟩
        · rw [g1, eb, en]
          simp only [List.length_cons, Prod.mk.injEq, and_true]
          exact ⟨by omega, by push_cast; omega⟩
        · rw [eb, List.length_cons, List.take_succ_cons, g2]
        · rw [eb]; simp only [List.length_cons]; omega
        · omega
        · rw [en]
          by_cases k9 : k = 9
          · omega
          · have hp := pow_le9 k (by omega)
            rw [ep] at g5 ⊢
            have hm : (c - 128) * 128 ^ k ≤ 127 * 128 ^ k := Int.mul_le_mul_of_nonneg_right (by omega) (by omega)
            have key := mult_lt v k (by omega) g5
            omega
        · intro i hi acc'
          rw [eb, List.length_cons] at hi
          cases i with
          | zero => rfl
          | succ i =>
            rw [List.take_succ_cons]
            rw [tk_cons]
            rw [if_neg h1, if_neg h2]
            exact g6 i (by omega) _
theorem str_inj : ∀ (a b : List Int), (∀ x ∈ a, isByte x) → (∀ x ∈ b, isByte x) → (a.map fun n => UInt8.ofNat n.toNat) = (b.map fun n => UInt8.ofNat n.toNat) → a = b
  | [], [], _, _, _ => rfl
  | [], y :: b, _, _, h => by simp at h
  | x :: a, [], _, _, h => by simp at h
  | x :: a, y :: b, ha, hb, h => by
    simp only [List.map_cons, List.cons.injEq] at h
    have hx := ha x (by simp)
    have hy := hb y (by simp)
    have e := congrArg UInt8.toNat h.1
    rw [UInt8.toNat_ofNat', UInt8.toNat_ofNat'] at e
    unfold isByte at hx hy
    have exy : x = y := by omega
    rw [exy, str_inj a b (fun z hz => ha z (by simp [hz])) (fun z hz => hb z (by simp [hz])) h.2]
theorem clone_eq (l : List Int) (h : l.length ≤ 1000000) : slices_Clone_byte_byte.f l = some l := by
  unfold slices_Clone_byte_byte.f
  simp only [Option.bind_some, List.length_nil, List.nil_append]
  rw [if_pos (by omega)]

/-! ### layer 05: runs, as lists -/
/-- How many of a row stand first that are c. -/
def lk (c : Int) : List Int → Nat
  | [] => 0
  | x :: r => if x = c then lk c r + 1 else 0
theorem lk_cons (x y : Int) (a : List Int) : lk x (y :: a) = if y = x then lk x a + 1 else 0 := rfl
theorem lk_le (c : Int) : ∀ l, lk c l ≤ l.length
  | [] => Nat.le_refl _
  | x :: r => by
    unfold lk
    split
    · exact Nat.succ_le_succ (lk_le c r)
    · exact Nat.zero_le _
/-- How many bytes stand ahead of the next run. -/
def btw : List Int → Nat
  | [] => 0
  | c :: r => if 3 ≤ lk c r + 1 then 0 else lk c r + 1 + btw (r.drop (lk c r))
termination_by l => l.length
decreasing_by simp only [List.length_drop, List.length_cons]; omega
theorem btw_nil : btw [] = 0 := by rw [btw]
theorem btw_cons (c : Int) (r : List Int) : btw (c :: r) = if 3 ≤ lk c r + 1 then 0 else lk c r + 1 + btw (r.drop (lk c r)) := by rw [btw]
theorem btw_le : ∀ (n : Nat) (l : List Int), l.length ≤ n → btw l ≤ l.length := by
  intro n
  induction n with
  | zero =>
    intro l hl
    obtain rfl := List.eq_nil_of_length_eq_zero (Nat.le_zero.1 hl)
    rw [btw_nil]; exact Nat.zero_le _
  | succ n ih =>
    intro l hl
    cases l with
    | nil => rw [btw_nil]; exact Nat.zero_le _
    | cons c r =>
      rw [btw_cons]
      split
      · exact Nat.zero_le _
      · have h1 := ih (r.drop (lk c r)) (by rw [List.length_drop]; simp only [List.length_cons] at hl; omega)
        rw [List.length_drop] at h1
        have h2 := lk_le c r
        simp only [List.length_cons]
        omega
/-- What bytes are laid as. -/
def E : List Int → List Int
  | [] => []
  | c :: r => if h : btw (c :: r) = 0 then enc (2 * (lk c r + 1 - 3) + 1) ++ c :: E (r.drop (lk c r)) else enc (2 * (btw (c :: r) - 1)) ++ ((c :: r).take (btw (c :: r)) ++ E ((c :: r).drop (btw (c :: r))))
termination_by l => l.length
decreasing_by
  · simp only [List.length_drop, List.length_cons]; omega
  · simp only [List.length_drop, List.length_cons]; omega
theorem E_nil : E [] = [] := by rw [E]
theorem E_run {c : Int} {r : List Int} (h : btw (c :: r) = 0) : E (c :: r) = enc (2 * (lk c r + 1 - 3) + 1) ++ c :: E (r.drop (lk c r)) := by rw [E, dif_pos h]
theorem E_lit {c : Int} {r : List Int} (h : btw (c :: r) ≠ 0) : E (c :: r) = enc (2 * (btw (c :: r) - 1)) ++ ((c :: r).take (btw (c :: r)) ++ E ((c :: r).drop (btw (c :: r)))) := by rw [E, dif_neg h]
theorem run_of {c : Int} {r : List Int} (h : btw (c :: r) = 0) : 3 ≤ lk c r + 1 := by
  rw [btw_cons] at h
  split at h
  · assumption
  · omega
theorem rd_zero (c : Int) (r : List Int) : rd (c :: r) 0 = c := rfl
theorem like_loop (c : Int) (r : List Int) (hl : (c :: r).length ≤ 100000) (d : Nat) : ∀ (K m : Nat), m ≤ (c :: r).length → (c :: r).length - m = d → d < K → runs_like.l0 K (c :: r) (m : Int) = some ((m + lk c ((c :: r).drop m) : Nat) : Int) := by
  induction d with
  | zero =>
    intro K m h1 h2 hK
    obtain ⟨K, rfl⟩ : ∃ q, K = q + 1 := ⟨K - 1, by omega⟩
    simp only [runs_like.l0]
    rw [if_neg (by omega), List.drop_eq_nil_of_le (by omega)]
    simp [lk]
  | succ d ih =>
    intro K m h1 h2 hK
    have h3 : m < (c :: r).length := by omega
    obtain ⟨K, rfl⟩ : ∃ q, K = q + 1 := ⟨K - 1, by omega⟩
    simp only [runs_like.l0]
    rw [if_pos (by omega), if_pos (by omega), if_pos (by simp only [List.length_cons]; omega), rd_at _ m h3, rd_zero, List.drop_eq_getElem_cons h3]
    unfold lk
    by_cases e : (c :: r)[m] = c
    · rw [if_pos e, if_pos e, show wrap64 ((m : Int) + 1) = ((m + 1 : Nat) : Int) by rw [w64 (by omega) (by omega)]; omega, ih K (m + 1) (by omega) (by omega) (by omega)]
      congr 2
      omega
    · rw [if_neg e, if_neg e]
      rfl
theorem like_eq (c : Int) (r : List Int) (hl : (c :: r).length ≤ 100000) (K : Nat) (hK : (c :: r).length ≤ K) : runs_like.f K (c :: r) = some ((lk c r + 1 : Nat) : Int) := by
  unfold runs_like.f
  have h := like_loop c r hl ((c :: r).length - 1) K 1 (by simp only [List.length_cons]; omega) rfl (by simp only [List.length_cons] at hK ⊢; omega)
  rw [show (1 : Int) = ((1 : Nat) : Int) from rfl, h]
  congr 2
  simp only [List.drop_succ_cons, List.drop_zero]
  omega
theorem between_loop (b : List Int) (hl : b.length ≤ 100000) (d : Nat) : ∀ (K m : Nat), m ≤ b.length → b.length - m ≤ d → b.length + d < K → runs_between.l0 K b (m : Int) = some ((m + btw (b.drop m) : Nat) : Int) := by
  induction d with
  | zero =>
    intro K m h1 h2 hK
    obtain ⟨K, rfl⟩ : ∃ q, K = q + 1 := ⟨K - 1, by omega⟩
    simp only [runs_between.l0]
    rw [if_neg (by omega), List.drop_eq_nil_of_le (by omega), btw_nil]
    rfl
  | succ d ih =>
    intro K m h1 h2 hK
    obtain ⟨K, rfl⟩ : ∃ q, K = q + 1 := ⟨K - 1, by omega⟩
    simp only [runs_between.l0]
    by_cases h3 : m < b.length
    · rw [if_pos (by omega), if_pos (by omega), if_pos (by omega), Int.toNat_natCast, List.drop_eq_getElem_cons h3]
      have h4 : (b[m] :: b.drop (m + 1)).length = b.length - m := by simp only [List.length_cons, List.length_drop]; omega
      rw [like_eq _ _ (by rw [h4]; omega) K (by rw [h4]; omega)]
      simp only [Option.bind_some]
      rw [btw_cons]
      have h5 := lk_le b[m] (b.drop (m + 1))
      rw [List.length_drop] at h5
      by_cases e : 3 ≤ lk b[m] (b.drop (m + 1)) + 1
      · rw [if_pos e, if_pos (by omega)]
        rfl
      · rw [if_neg e, if_neg (by omega), show wrap64 ((m : Int) + ((lk b[m] (b.drop (m + 1)) + 1 : Nat) : Int)) = ((m + (lk b[m] (b.drop (m + 1)) + 1) : Nat) : Int) by rw [w64 (by omega) (by omega)]; omega, ih K _ (by omega) (by omega) (by omega), List.drop_drop]
        congr 2
        rw [show m + 1 + lk b[m] (b.drop (m + 1)) = m + (lk b[m] (b.drop (m + 1)) + 1) by omega]
        omega
    · rw [if_neg (by omega), List.drop_eq_nil_of_le (by omega), btw_nil]
      rfl
theorem between_eq (b : List Int) (hl : b.length ≤ 100000) (K : Nat) (hK : 2 * b.length < K) : runs_between.f K b = some ((btw b : Nat) : Int) := by
  unfold runs_between.f
  have h := between_loop b hl b.length K 0 (by omega) (by omega) (by omega)
  rw [show (0 : Int) = ((0 : Nat) : Int) from rfl, h, List.drop_zero, Nat.zero_add]
theorem put_eq (v : Nat) (hv : v < 18446744073709551616) (K : Nat) (hK : 20 ≤ K) : varint_Put.f K [] [(v : Int)] = some (enc v) := by
  unfold varint_Put.f
  rw [if_pos (.inl rfl), clone_eq [] (by simp)]
  simp only [Option.bind_some]
  have h := put_all [(v : Int)] (fun x hx => by rw [List.mem_singleton.1 hx]; unfold isU64; omega) (by simp) 1 K 0 [] (by simp) (by simp) (by omega) (by simp)
  rw [show (0 : Int) = ((0 : Nat) : Int) from rfl, h]
  simp [flat]
theorem odd_or (n : Nat) (h : 2 * n < 18446744073709551616) : Go.bits .or .u64 ((2 * n : Nat) : Int) 1 = ((2 * n + 1 : Nat) : Int) := by
  have e := Go.u64_or_nat (2 * n) 1 (by omega) (by omega)
  rw [show (1 : Int) = ((1 : Nat) : Int) from rfl, e, Go.nat_join 1 (2 * n) 1 (by omega) (by omega)]
theorem encode_loop (d : Nat) : ∀ (b : List Int) (K : Nat) (out : List Int), b.length ≤ d → b.length ≤ 100000 → 3 * d + 40 ≤ K → out.length + 20 * b.length ≤ 10000000 → runs_Encode.l0 K b out = some (out ++ E b) := by
  induction d with
  | zero =>
    intro b K out h1 h2 hK ho
    obtain rfl := List.eq_nil_of_length_eq_zero (Nat.le_zero.1 h1)
    obtain ⟨K, rfl⟩ : ∃ q, K = q + 1 := ⟨K - 1, by omega⟩
    simp only [runs_Encode.l0]
    rw [if_neg (by simp), E_nil, List.append_nil]
  | succ d ih =>
    intro b K out h1 h2 hK ho
    obtain ⟨K, rfl⟩ : ∃ q, K = q + 1 := ⟨K - 1, by omega⟩
    simp only [runs_Encode.l0]
    cases b with
    | nil => rw [if_neg (by simp), E_nil, List.append_nil]
    | cons c r =>
      have hp : (0 : Int) < ((c :: r).length : Int) := by simp only [List.length_cons]; omega
      rw [if_pos hp, between_eq _ h2 K (by omega)]
      simp only [Option.bind_some]
      by_cases hb : btw (c :: r) = 0
      · have h3 := run_of hb
        have h4 := lk_le c r
        have hp' := hp
        simp only [List.length_cons] at h1 h2 hp' ho
        rw [hb, if_pos (by rfl), like_eq c r h2 K (by simp only [List.length_cons]; omega)]
        simp only [Option.bind_some]
        have e1 : wrap64 (((lk c r + 1 : Nat) : Int) - 3) = ((lk c r + 1 - 3 : Nat) : Int) := by rw [w64 (by omega) (by omega)]; omega
        have e2 : IntKind.u64.wrap (IntKind.u64.wrap ((lk c r + 1 - 3 : Nat) : Int) * 2) = ((2 * (lk c r + 1 - 3) : Nat) : Int) := by rw [u64w (n := ((lk c r + 1 - 3 : Nat) : Int)) (by omega) (by omega), u64w (by omega) (by omega)]; omega
        rw [e1, e2, odd_or _ (by omega), put_eq _ (by omega) K (by omega)]
        simp only [Option.bind_some]
        have h5 := enc_ten (2 * (lk c r + 1 - 3) + 1) (by omega)
        rw [if_pos (by omega), if_pos hp, if_pos (by simp only [List.length_append, List.length_singleton]; omega), if_pos (by omega), if_pos (by simp only [List.length_cons]; omega), rd_zero, Int.toNat_natCast, List.drop_succ_cons, ih _ K _ (by rw [List.length_drop]; omega) (by rw [List.length_drop]; omega) (by omega) (by simp only [List.length_append, List.length_singleton, List.length_drop]; omega), E_run hb]
        simp only [List.append_assoc, List.singleton_append]
      · have h4 := btw_le _ (c :: r) (Nat.le_refl _)
        rw [if_neg (by omega)]
        have e1 : wrap64 (((btw (c :: r) : Nat) : Int) - 1) = ((btw (c :: r) - 1 : Nat) : Int) := by rw [w64 (by omega) (by omega)]; omega
        have e2 : IntKind.u64.wrap (IntKind.u64.wrap ((btw (c :: r) - 1 : Nat) : Int) * 2) = ((2 * (btw (c :: r) - 1) : Nat) : Int) := by rw [u64w (n := ((btw (c :: r) - 1 : Nat) : Int)) (by omega) (by omega), u64w (by omega) (by omega)]; omega
        rw [e1, e2, put_eq _ (by omega) K (by omega)]
        simp only [Option.bind_some]
        have h5 := enc_ten (2 * (btw (c :: r) - 1)) (by omega)
        have h6 : ((c :: r).take (btw (c :: r))).length = btw (c :: r) := by rw [List.length_take]; omega
        rw [if_pos (by omega), if_pos (by omega), if_pos (by omega), Int.toNat_natCast, if_pos (by rw [List.length_append]; omega), ih _ K _ (by rw [List.length_drop]; omega) (by rw [List.length_drop]; omega) (by omega) (by rw [List.length_append, List.length_append, List.length_drop, h6]; omega), E_lit hb]
        simp only [List.append_assoc]
theorem encode_eq (b : List Int) (hl : b.length ≤ 100000) (K : Nat) (hK : 3 * b.length + 40 ≤ K) : runs_Encode.f K b = some (E b) := by
  unfold runs_Encode.f
  rw [encode_loop b.length b K [] (Nat.le_refl _) hl hK (by simp only [List.length_nil]; omega), List.nil_append]

theorem refone_eq (n : Nat) : ∀ (K : Nat), (enc n).length ≤ 100000 → (enc n).length ≤ K → n < 18446744073709551616 → deckleref03_one.f K (n : Int) = some (enc n) := by
  induction n using Nat.strongRecOn with
  | _ n ih =>
    intro K hl hK hn
    have hp := enc_pos n
    obtain ⟨K, rfl⟩ : ∃ q, K = q + 1 := ⟨K - 1, by omega⟩
    simp only [deckleref03_one.f]
    by_cases h : n < 128
    · rw [if_pos (by omega), enc_small h, show ((n : Int)) % 256 = n by omega]
    · rw [enc_big h] at hl hK ⊢
      simp only [List.length_cons] at hl hK
      rw [if_neg (by omega), Int.tmod_eq_emod_of_nonneg (by omega), Int.tdiv_eq_ediv_of_nonneg (by omega), u64w (n := (n : Int) / 128) (by omega) (by omega), u64w (by omega) (by omega)]
      rw [show (n : Int) / 128 = ((n / 128 : Nat) : Int) by omega, ih (n / 128) (by omega) K (by omega) (by omega) (by omega)]
      simp only [Option.bind_some, List.length_singleton]
      rw [if_pos (by omega), show ((n : Int) % 128 + 128) % 256 = ((n % 128 + 128 : Nat) : Int) by omega]
      rfl
theorem refput_all (l : List Int) (hl : ∀ x ∈ l, isU64 x) (hn : l.length ≤ 1000) (d : Nat) : ∀ (K m : Nat) (x5 : List Int), m ≤ l.length → l.length - m = d → d + 20 ≤ K → x5.length + 10 * d ≤ 100000 →
    deckleref03_Put.l0 K l x5 (m : Int) = some (x5 ++ flat (l.drop m)) := by
  induction d with
  | zero =>
    intro K m x5 h1 h2 hK hx
    obtain ⟨K, rfl⟩ : ∃ q, K = q + 1 := ⟨K - 1, by omega⟩
    simp only [deckleref03_Put.l0]
    rw [if_neg (by omega), List.drop_eq_nil_of_le (by omega)]
    simp [flat]
  | succ d ih =>
    intro K m x5 h1 h2 hK hx
    obtain ⟨K, rfl⟩ : ∃ q, K = q + 1 := ⟨K - 1, by omega⟩
    have c : m < l.length := by omega
    have hu := hl _ (List.getElem_mem c)
    unfold isU64 at hu
    have ht := enc_ten l[m].toNat (by omega)
    have hw : wrap64 ((m : Int) + 1) = ((m + 1 : Nat) : Int) := by rw [w64 (by omega) (by omega)]; omega
    have e : l[m] = ((l[m].toNat : Nat) : Int) := by omega
    have ho : deckleref03_one.f K l[m] = some (enc l[m].toNat) := by
      conv => lhs; rw [e]
      exact refone_eq _ K (by omega) (by omega) (by omega)
    simp only [deckleref03_Put.l0]
    rw [if_pos (by omega), if_pos (by omega), rd_at l m c, ho]
    simp only [Option.bind_some]
    rw [if_pos (by omega), hw, ih K (m + 1) _ (by omega) (by omega) (by omega) (by rw [List.length_append]; omega), List.drop_eq_getElem_cons c]
    simp only [flat, List.flatMap_cons, List.append_assoc]
theorem reftake_loop (b : List Int) (hb : ∀ x ∈ b, isByte x) (hl : b.length ≤ 100000) (d : Nat) : ∀ (K m : Nat) (acc : Int), m ≤ 9 → m ≤ b.length → 9 - m = d → 2 * d + 4 ≤ K → 0 ≤ acc → acc < 128 ^ m →
    deckleref03_Take.l0 K b acc (128 ^ m) (m : Int) = some (tk (b.drop m) m acc) := by
  induction d with
  | zero =>
    intro K m acc h9 hm hd hK h0 h1
    have e9 : m = 9 := by omega
    subst e9
    have hp9 := p9
    obtain ⟨K, rfl⟩ : ∃ q, K = q + 2 := ⟨K - 2, by omega⟩
    simp only [deckleref03_Take.l0]
    rw [if_pos (by decide)]
    by_cases c : (9 : Nat) < b.length
    · have hc := hb _ (List.getElem_mem c)
      unfold isByte at hc
      rw [if_neg (by omega), if_pos (by decide), if_pos (by decide), if_pos (by omega), rd_at b 9 c, List.drop_eq_getElem_cons c]
      rw [tk_cons]
      by_cases g : b[9] > 1
      · rw [if_pos g, if_pos (.inl ⟨rfl, g⟩)]
        simp only [deckleref03_Take.j1]
        rw [if_pos trivial]
      · rw [if_neg g, if_pos (by decide)]
        by_cases z : b[9] = 0
        · simp only [deckleref03_Take.j1, z]
          rw [if_pos (by simp), if_pos (.inr ⟨by omega, trivial⟩)]
        · have e1 : b[9] = 1 := by omega
          simp only [deckleref03_Take.j1]
          rw [rd_at b 9 c, e1]
          rw [if_neg (by simp), if_pos (by decide), if_pos (by omega), if_pos (by decide), if_neg (by omega), if_pos (by decide), show IntKind.u64.wrap (Int.tmod 1 128) = 1 from by decide, p9, u64w (n := 1 * 9223372036854775808) (by decide) (by decide), u64w (by omega) (by omega), w64 (by omega) (by omega)]
    · rw [if_pos (by omega), List.drop_eq_nil_of_le (by omega)]
      simp [tk]
  | succ d ih =>
    intro K m acc h9 hm hd hK h0 h1
    obtain ⟨K, rfl⟩ : ∃ q, K = q + 2 := ⟨K - 2, by omega⟩
    have hp := pow_le9 m (by omega)
    simp only [deckleref03_Take.l0]
    rw [if_pos (by omega)]
    by_cases c : m < b.length
    · have hc := hb _ (List.getElem_mem c)
      unfold isByte at hc
      have hw : wrap64 ((m : Int) + 1) = ((m + 1 : Nat) : Int) := by rw [w64 (by omega) (by omega)]; omega
      rw [if_neg (by omega), if_neg (by omega), rd_at b m c, List.drop_eq_getElem_cons c]
      rw [tk_cons]
      by_cases z : m > 0 ∧ b[m] = 0
      · rw [if_pos (by omega), if_pos (by omega), if_pos (by omega), z.2, if_pos (.inr ⟨z.1, rfl⟩)]
        simp only [deckleref03_Take.j1]
        rw [if_pos (by simp)]
      · have hno : ¬ ((m = 9 ∧ b[m] > 1) ∨ (m > 0 ∧ b[m] = 0)) := by omega
        rw [if_neg hno]
        have hj : (if (m : Int) > 0 then (if 0 ≤ (m : Int) then (if (m : Int) < (b.length : Int) then deckleref03_Take.j1 (K + 1) b acc (128 ^ m) (m : Int) (b[m] == 0) else none) else none) else deckleref03_Take.j1 (K + 1) b acc (128 ^ m) (m : Int) false) = deckleref03_Take.j1 (K + 1) b acc (128 ^ m) (m : Int) false := by
          by_cases q : (m : Int) > 0
          · rw [if_pos q, if_pos (by omega), if_pos (by omega), show (b[m] == 0) = false from by simp; omega]
          · rw [if_neg q]
        rw [hj]
        have hcm : b[m] % 128 * 128 ^ m ≤ 127 * 128 ^ m := Int.mul_le_mul_of_nonneg_right (by omega) (by omega)
        have hcn : 0 ≤ b[m] % 128 * 128 ^ m := Int.mul_nonneg (by omega) (by omega)
        simp only [deckleref03_Take.j1]
        rw [if_neg (by simp), if_pos (by omega), if_pos (by omega), rd_at b m c, Int.tmod_eq_emod_of_nonneg (by omega), u64w (n := b[m] % 128) (by omega) (by omega), u64w (n := b[m] % 128 * 128 ^ m) (by omega) (by omega), u64w (n := acc + b[m] % 128 * 128 ^ m) (by omega) (by omega), hw]
        by_cases l : b[m] < 128
        · rw [if_pos l, if_pos l, show b[m] % 128 = b[m] by omega]
          congr 1
        · rw [if_neg l, if_neg l]
          have hq : b[m] % 128 = b[m] - 128 := by omega
          have ep : (128 : Int) ^ (m + 1) = 128 ^ m * 128 := Int.pow_succ _ _
          rw [u64w (n := 128 ^ m * 128) (by omega) (by omega), ← ep, ih K (m + 1) _ (by omega) (by omega) (by omega) (by omega) (by omega) (by rw [ep]; omega), hq]
    · rw [if_pos (by omega), List.drop_eq_nil_of_le (by omega)]
      simp [tk]
theorem reftake_eq (b : List Int) (hb : ∀ x ∈ b, isByte x) (hl : b.length ≤ 100000) (K : Nat) (hK : 40 ≤ K) : deckleref03_Take.f K b = some (tk b 0 0) := by
  unfold deckleref03_Take.f
  have := reftake_loop b hb hl 9 K 0 0 (by omega) (by omega) (by omega) (by omega) (by omega) (by decide)
  simpa using this

theorem small_all (k : Nat) (hk : 200 ≤ k) : decklelaw05_small.f k = some true :=
  at_rounds (g := fun k => decklelaw05_small.f k) (fun k => decklelaw05_small.mono k) hk (by decide +kernel)

/-! ### what groups tell -/
def Ok (l : List Int) : Prop := (∀ x ∈ l, isByte x) ∧ l.length ≤ 100000
theorem Ok.drop {l : List Int} (h : Ok l) (n : Nat) : Ok (l.drop n) := ⟨fun x hx => h.1 x (List.mem_of_mem_drop hx), by rw [List.length_drop]; have := h.2; omega⟩
def wide : Int := 1099511627776
/-- One group: what is left behind it, and what it tells; n bytes at most. -/
def stepG (left : List Int) (n : Int) : Option (List Int × List Int) :=
  let t := tk left 0 0
  if t.2.2 ≠ 0 ∨ t.1 > wide then none
  else if t.1 % 2 = 1 then
    if t.1 / 2 + 3 > n then none else match left.drop t.2.1.toNat with
      | [] => none
      | x :: r => some (r, List.replicate (t.1 / 2 + 3).toNat x)
  else if t.1 / 2 + 1 > n ∨ t.1 / 2 + 1 > ((left.drop t.2.1.toNat).length : Int) then none
  else some ((left.drop t.2.1.toNat).drop (t.1 / 2 + 1).toNat, (left.drop t.2.1.toNat).take (t.1 / 2 + 1).toNat)
def D : Nat → List Int → List Int → Int → Option (List Int)
  | _, [], out, _ => some out
  | 0, _ :: _, _, _ => none
  | d + 1, c :: r, out, n => (stepG (c :: r) (n - out.length)).bind fun p => D d p.1 (out ++ p.2) n
theorem pfail (at_ e z fa : Int) (l : List Int) (x : Int) (hx : x ≠ 0) : cursor_Cursor_Fail.f at_ e z fa l x = some (at_, (if e = 0 then x else e), (if e = 0 then 0 else z), (if e = 0 then at_ else fa), []) := by
  unfold cursor_Cursor_Fail.f cursor_place_note.f
  rw [if_neg hx]
  by_cases h : e = 0
  · simp only [if_pos h, Option.bind_some]
  · simp only [if_neg h, Option.bind_some]
theorem tk_cases (l : List Int) (hl : Ok l) : (∃ n s : Int, tk l 0 0 = (n, s, 0) ∧ isU64 n ∧ 1 ≤ s ∧ s ≤ l.length) ∨ ∃ e : Int, tk l 0 0 = (0, 0, e) ∧ e ≠ 0 := by
  by_cases h : (tk l 0 0).2.2 = 0
  · obtain ⟨v, e1, _, h2, _, h4, _⟩ := tk_was l hl.1 0 0 (by omega) h
    have hp := enc_pos v
    rw [show (128 : Int) ^ 0 = 1 from rfl, Int.mul_one] at h4 e1
    exact .inl ⟨_, _, e1, by unfold isU64; omega, by omega, by omega⟩
  · rcases tk_err l 0 0 with h1 | h1 | h1
    · exact absurd h1 h
    · exact .inr ⟨2, h1, by decide⟩
    · exact .inr ⟨3, h1, by decide⟩
theorem take_ok (at_ e z fa : Int) (l : List Int) (hl : Ok l) (n : Int) (h0 : 0 ≤ n) (h1 : n ≤ l.length) : cursor_Cursor_Take.f at_ e z fa l n = some (l.take n.toNat, wrap64 (at_ + n), e, z, fa, l.drop n.toNat) := by
  unfold cursor_Cursor_Take.f
  have := hl.2
  rw [if_neg (by omega), clone_eq _ (by rw [List.length_take]; omega), Option.bind_some]
theorem take_bad (at_ e z fa : Int) (l : List Int) (n : Int) (h1 : (l.length : Int) < n) : cursor_Cursor_Take.f at_ e z fa l n = some ([], at_, (if e = 0 then 2 else e), (if e = 0 then 0 else z), (if e = 0 then at_ else fa), []) := by
  unfold cursor_Cursor_Take.f
  rw [if_pos (by omega), pfail _ _ _ _ _ 2 (by decide), Option.bind_some]
theorem num_ok (K : Nat) (hK : 50 ≤ K) (at_ z fa : Int) (l : List Int) (hl : Ok l) (n s : Int) (ht : tk l 0 0 = (n, s, 0)) (hn : isU64 n) (hw : n ≤ wide) (h1 : 1 ≤ s) (h2 : s ≤ l.length) : cursor_Cursor_Num.f K at_ 0 z fa l 1099511627776 = some (n, wrap64 (at_ + s), 0, z, fa, l.drop s.toNat) := by
  obtain ⟨K, rfl⟩ : ∃ q, K = q + 2 := ⟨K - 2, by omega⟩
  unfold wide at hw
  unfold isU64 at hn
  unfold cursor_Cursor_Num.f cursor_Cursor_number.f
  rw [if_pos (by decide), take_eq l hl.1 hl.2 (K + 2) (by omega), ht, Option.bind_some, if_pos rfl, u64w (by decide) (by decide), decide_eq_false (by omega), cursor_Cursor_number.j0, if_neg (by decide), cursor_Cursor_number.j1, if_pos rfl, take_ok _ _ _ _ _ hl s (by omega) h2, Option.bind_some, Option.bind_some, w64 (n := n) (by omega) (by omega)]
theorem num_bad (K : Nat) (hK : 50 ≤ K) (at_ z fa : Int) (l : List Int) (hl : Ok l) (h : (tk l 0 0).2.2 ≠ 0 ∨ (tk l 0 0).1 > wide) : ∃ a e z' f : Int, e ≠ 0 ∧ cursor_Cursor_Num.f K at_ 0 z fa l 1099511627776 = some (0, a, e, z', f, []) := by
  obtain ⟨K, rfl⟩ : ∃ q, K = q + 2 := ⟨K - 2, by omega⟩
  unfold cursor_Cursor_Num.f cursor_Cursor_number.f
  rw [if_pos (by decide), take_eq l hl.1 hl.2 (K + 2) (by omega), Option.bind_some]
  rcases tk_cases l hl with ⟨n, s, ht, hn, h1, h2⟩ | ⟨x, ht, hx⟩
  · rw [ht] at h ⊢
    have hw : n > 1099511627776 := by
      rcases h with h | h
      · exact absurd rfl h
      · exact h
    rw [if_pos rfl, u64w (by decide) (by decide), decide_eq_true hw, cursor_Cursor_number.j0, if_pos rfl, cursor_Cursor_number.j1, if_neg (by decide), pfail _ _ _ _ _ 3 (by decide), Option.bind_some, Option.bind_some]
    dsimp only
    rw [w64 (by decide) (by decide)]
    exact ⟨_, _, _, _, (by decide : (3 : Int) ≠ 0), rfl⟩
  · rw [ht] at h ⊢
    rw [if_neg hx, cursor_Cursor_number.j0, if_neg (by decide), cursor_Cursor_number.j1, if_neg hx, pfail _ _ _ _ _ x hx, Option.bind_some, Option.bind_some]
    dsimp only
    rw [w64 (by decide) (by decide)]
    exact ⟨_, _, _, _, (by rw [if_pos rfl]; exact hx : (if (0 : Int) = 0 then x else 0) ≠ 0), rfl⟩
theorem and_one (n : Int) (h0 : 0 ≤ n) (h1 : n ≤ wide) : Go.bits .and .i64 n 1 = n % 2 := by
  unfold wide at h1
  exact bits_mask .i64 62 (by decide) (fun n h0 h1 => by rw [IntKind.wrap_i64]; omega) 1 (by decide) n h0 (by omega)
/-- A group that isn't there. -/
theorem group_none (K : Nat) (hK : 60 ≤ K) (at_ z fa : Int) (l : List Int) (hl : Ok l) (most : Int) (h : stepG l most = none) : ∃ (g : List Int) (a e z' f : Int) (l' : List Int), runs_group.f K at_ 0 z fa l most = some (g, false, a, e, z', f, l') := by
  obtain ⟨K, rfl⟩ : ∃ q, K = q + 1 := ⟨K - 1, by omega⟩
  unfold runs_group.f
  unfold stepG at h
  by_cases hb : (tk l 0 0).2.2 ≠ 0 ∨ (tk l 0 0).1 > wide
  · obtain ⟨a, e, z', f, he, hn⟩ := num_bad (K + 1) (by omega) at_ z fa l hl hb
    rw [hn, Option.bind_some, if_neg (show ¬ Go.bits .and .i64 0 1 = 1 by rw [and_one 0 (by decide) (by decide)]; decide), show ((Go.bits .and .i64 0 1 == 1) = false) by rw [and_one 0 (by decide) (by decide)]; decide, w64 (n := (0 : Int) / 2 + 1) (by decide) (by decide), runs_group.j0]
    dsimp only
    by_cases hm : (0 : Int) / 2 + 1 > most
    · rw [if_pos hm]
      exact ⟨_, _, _, _, _, _, rfl⟩
    · rw [if_neg hm, if_neg (by decide), take_bad _ _ _ _ _ _ (by decide), Option.bind_some]
      unfold cursor_place_Fault.f
      rw [Option.bind_some, if_neg he]
      have : (e == 0) = false := beq_eq_false_iff_ne.2 he
      rw [this]
      exact ⟨_, _, _, _, _, _, rfl⟩
  · rw [if_neg hb] at h
    rcases tk_cases l hl with ⟨n, s, ht, hn, h1, h2⟩ | ⟨x, ht, hx⟩
    · rw [ht] at h hb
      have hw : n ≤ wide := by
        rcases Int.lt_or_le wide n with c | c
        · exact absurd (.inr c) hb
        · exact c
      have hw' := hw
      unfold wide at hw'
      unfold isU64 at hn
      rw [num_ok (K + 1) (by omega) at_ z fa l hl n s ht hn hw h1 h2, Option.bind_some, and_one n hn.1 hw]
      by_cases ho : n % 2 = 1
      · rw [if_pos ho, ho, show ((1 : Int) == 1) = true from rfl, w64 (n := n / 2 + 3) (by omega) (by omega), runs_group.j0]
        dsimp only
        simp only [ho, if_true] at h
        by_cases hm : n / 2 + 3 > most
        · rw [if_pos hm]
          exact ⟨_, _, _, _, _, _, rfl⟩
        · rw [if_neg hm] at h
          cases hd : l.drop s.toNat with
          | cons c r => rw [hd] at h; simp at h
          | nil =>
            unfold cursor_Cursor_Byte.f
            rw [if_neg hm, if_pos rfl, take_bad _ _ _ _ _ 1 (by decide), Option.bind_some]
            dsimp only
            rw [if_neg (by decide), Option.bind_some]
            unfold bytes_Repeat.f cursor_place_Fault.f
            dsimp only
            rw [if_pos ⟨by decide, ⟨by omega, by omega⟩, by decide⟩, Option.bind_some, Option.bind_some]
            exact ⟨_, _, _, _, _, _, rfl⟩
      · rw [if_neg ho, show (n % 2 == 1) = false from beq_eq_false_iff_ne.2 ho, w64 (n := n / 2 + 1) (by omega) (by omega), runs_group.j0]
        dsimp only
        simp only [ho, if_false] at h
        by_cases hm : n / 2 + 1 > most
        · rw [if_pos hm]
          exact ⟨_, _, _, _, _, _, rfl⟩
        · by_cases hl2 : n / 2 + 1 > ((l.drop s.toNat).length : Int)
          · rw [if_neg hm, if_neg (by decide), take_bad _ _ _ _ _ (n / 2 + 1) (by omega), Option.bind_some]
            unfold cursor_place_Fault.f
            rw [Option.bind_some, if_pos rfl]
            exact ⟨_, _, _, _, _, _, rfl⟩
          · rw [if_neg (by omega)] at h
            cases h
    · rw [ht] at hb
      exact absurd (.inl hx) hb
theorem group_some (K : Nat) (hK : 60 ≤ K) (at_ z fa : Int) (l : List Int) (hl : Ok l) (most : Int) (p : List Int × List Int) (h : stepG l most = some p) : ∃ a : Int, runs_group.f K at_ 0 z fa l most = some (p.2, true, a, 0, z, fa, p.1) := by
  obtain ⟨K, rfl⟩ : ∃ q, K = q + 1 := ⟨K - 1, by omega⟩
  unfold runs_group.f
  unfold stepG at h
  by_cases hb : (tk l 0 0).2.2 ≠ 0 ∨ (tk l 0 0).1 > wide
  · rw [if_pos hb] at h; cases h
  · rw [if_neg hb] at h
    rcases tk_cases l hl with ⟨n, s, ht, hn, h1, h2⟩ | ⟨x, ht, hx⟩
    · rw [ht] at h hb
      have hw : n ≤ wide := by
        rcases Int.lt_or_le wide n with c | c
        · exact absurd (.inr c) hb
        · exact c
      have hw' := hw
      unfold wide at hw'
      unfold isU64 at hn
      rw [num_ok (K + 1) (by omega) at_ z fa l hl n s ht hn hw h1 h2, Option.bind_some, and_one n hn.1 hw]
      by_cases ho : n % 2 = 1
      · rw [if_pos ho, ho, show ((1 : Int) == 1) = true from rfl, w64 (n := n / 2 + 3) (by omega) (by omega), runs_group.j0]
        dsimp only
        simp only [ho, if_true] at h
        by_cases hm : n / 2 + 3 > most
        · rw [if_pos hm] at h; cases h
        · rw [if_neg hm] at h
          cases hd : l.drop s.toNat with
          | nil => rw [hd] at h; simp at h
          | cons c r =>
            rw [hd] at h
            simp only [Option.some.injEq] at h
            have hok := hl.drop s.toNat
            rw [hd] at hok
            have hc := hok.1 c (by simp)
            unfold isByte at hc
            unfold cursor_Cursor_Byte.f
            rw [if_neg hm, if_pos rfl, take_ok _ _ _ _ _ hok 1 (by decide) (by simp only [List.length_cons]; omega), Option.bind_some, show ((c :: r).take (1 : Int).toNat) = [c] from rfl]
            dsimp only
            rw [if_pos (show (([c].length : Nat) : Int) = 1 from rfl), if_pos (show (0 : Int) < (([c].length : Nat) : Int) from Int.zero_lt_one), Option.bind_some]
            unfold bytes_Repeat.f cursor_place_Fault.f
            dsimp only
            rw [show rd [c] 0 = c from rfl, if_pos ⟨rfl, ⟨by omega, by omega⟩, hc⟩, Option.bind_some, Option.bind_some, ← h]
            exact ⟨_, rfl⟩
      · rw [if_neg ho, show (n % 2 == 1) = false from beq_eq_false_iff_ne.2 ho, w64 (n := n / 2 + 1) (by omega) (by omega), runs_group.j0]
        dsimp only
        simp only [ho, if_false] at h
        by_cases hm : n / 2 + 1 > most ∨ n / 2 + 1 > ((l.drop s.toNat).length : Int)
        · rw [if_pos hm] at h; cases h
        · rw [if_neg hm] at h
          simp only [Option.some.injEq] at h
          rw [if_neg (by omega), if_neg (by decide), take_ok _ _ _ _ _ (hl.drop _) (n / 2 + 1) (by omega) (by omega), Option.bind_some]
          unfold cursor_place_Fault.f
          rw [Option.bind_some, ← h]
          exact ⟨_, rfl⟩
    · rw [ht] at hb
      exact absurd (.inl hx) hb
theorem step_less {l : List Int} (hl : Ok l) {most : Int} {p : List Int × List Int} (h : stepG l most = some p) : p.1.length < l.length ∧ (p.2.length : Int) ≤ most ∧ 0 < p.2.length ∧ Ok p.1 ∧ ∀ x ∈ p.2, isByte x := by
  unfold stepG at h
  by_cases hb : (tk l 0 0).2.2 ≠ 0 ∨ (tk l 0 0).1 > wide
  · rw [if_pos hb] at h; cases h
  · rw [if_neg hb] at h
    rcases tk_cases l hl with ⟨n, s, ht, hn, h1, h2⟩ | ⟨x, ht, hx⟩
    · rw [ht] at h
      unfold isU64 at hn
      by_cases ho : n % 2 = 1
      · simp only [ho, if_true] at h
        by_cases hm : n / 2 + 3 > most
        · rw [if_pos hm] at h; cases h
        · rw [if_neg hm] at h
          have hlen := List.length_drop (i := s.toNat) (l := l)
          cases hd : l.drop s.toNat with
          | nil => rw [hd] at h; simp at h
          | cons c r =>
            have hok := hl.drop s.toNat
            rw [hd] at h hlen hok
            simp only [Option.some.injEq] at h
            subst h
            simp only [List.length_cons, List.length_replicate] at hlen ⊢
            refine ⟨by omega, by omega, by omega, ⟨fun x hx => hok.1 x (by simp [hx]), by have := hok.2; simp only [List.length_cons] at this; omega⟩, fun x hx => ?_⟩
            rw [(List.mem_replicate.1 hx).2]
            exact hok.1 c (by simp)
      · simp only [ho, if_false] at h
        by_cases hm : n / 2 + 1 > most ∨ n / 2 + 1 > ((l.drop s.toNat).length : Int)
        · rw [if_pos hm] at h; cases h
        · rw [if_neg hm] at h
          simp only [Option.some.injEq] at h
          subst h
          have hok := hl.drop s.toNat
          have hlen := List.length_drop (i := s.toNat) (l := l)
          refine ⟨by simp only [List.length_drop]; omega, by simp only [List.length_take]; omega, by simp only [List.length_take]; omega, hok.drop _, fun x hx => hok.1 x (List.mem_of_mem_take hx)⟩
    · rw [ht] at hb
      exact absurd (.inl hx) hb
def same (a b : List Int) : Bool := (strOfNums a).toList == (strOfNums b).toList
def ans (b : List Int) (n : Int) (o : Option (List Int)) : List Int × Bool := match o with
  | none => ([], false)
  | some out => if (out.length : Int) = n then if same (E out) b = true then (out, true) else ([], false) else ([], false)
theorem D_more (n : Int) (d : Nat) : ∀ (l out o : List Int), D d l out n = some o → out.length ≤ o.length := by
  induction d with
  | zero =>
    intro l out o h
    cases l with
    | nil => simp only [D, Option.some.injEq] at h; rw [h]; exact Nat.le_refl _
    | cons c r => simp only [D] at h; cases h
  | succ d ih =>
    intro l out o h
    cases l with
    | nil => simp only [D, Option.some.injEq] at h; rw [h]; exact Nat.le_refl _
    | cons c r =>
      simp only [D] at h
      obtain ⟨p, _, h⟩ := Option.bind_eq_some_iff.1 h
      have := ih _ _ _ h
      rw [List.length_append] at this
      omega
theorem D_bound {n : Int} {d : Nat} {l out : List Int} (ho : (out.length : Int) ≤ n ∨ out = []) (h : n ≤ 90000 ∨ ∃ o, D d l out n = some o ∧ o.length ≤ 90000) : out.length ≤ 90000 := by
  rcases h with h | ⟨o, h, hl⟩
  · rcases ho with ho | rfl
    · omega
    · exact Nat.zero_le _
  · have := D_more n d l out o h
    omega
theorem decode_loop (b : List Int) (n : Int) (hn : -9223372036854775808 ≤ n ∧ n ≤ 9223372036854775807) (d : Nat) : ∀ (K : Nat) (at_ z fa : Int) (l out : List Int), Ok l → l.length ≤ d → 320000 + d ≤ K → ((out.length : Int) ≤ n ∨ out = []) → (n ≤ 90000 ∨ ∃ o, D d l out n = some o ∧ o.length ≤ 90000) →
    runs_Decode.l0 K b n out at_ 0 z fa l = some (ans b n (D d l out n)) := by
  induction d with
  | zero =>
    intro K at_ z fa l out hl h1 hK ho hD
    obtain rfl := List.eq_nil_of_length_eq_zero (Nat.le_zero.1 h1)
    obtain ⟨K, rfl⟩ : ∃ q, K = q + 1 := ⟨K - 1, by omega⟩
    rw [runs_Decode.l0]
    unfold cursor_Cursor_Left.f ans
    rw [Option.bind_some]
    dsimp only
    rw [if_neg (by decide)]
    have hout := D_bound ho hD
    simp only [D]
    by_cases e : (out.length : Int) = n
    · rw [if_pos e, if_pos e, encode_eq out (by omega) K (by omega), Option.bind_some]
      unfold bytes_Equal.f same
      rw [Option.bind_some]
      split <;> rfl
    · rw [if_neg e, if_neg e]
  | succ d ih =>
    intro K at_ z fa l out hl h1 hK ho hD
    obtain ⟨K, rfl⟩ : ∃ q, K = q + 1 := ⟨K - 1, by omega⟩
    rw [runs_Decode.l0]
    unfold cursor_Cursor_Left.f
    rw [Option.bind_some]
    cases l with
    | nil =>
      unfold ans
      dsimp only
      rw [if_neg (by decide)]
      have hout := D_bound ho hD
      simp only [D]
      by_cases e : (out.length : Int) = n
      · rw [if_pos e, if_pos e, encode_eq out (by omega) K (by omega), Option.bind_some]
        unfold bytes_Equal.f same
        rw [Option.bind_some]
        split <;> rfl
      · rw [if_neg e, if_neg e]
    | cons c r =>
      rw [if_pos (by simp only [List.length_cons]; omega)]
      have hw : wrap64 (n - (out.length : Int)) = n - (out.length : Int) := by
        rcases ho with ho | rfl
        · exact w64 (by omega) (by omega)
        · exact w64 (by simp only [List.length_nil]; omega) (by simp only [List.length_nil]; omega)
      rw [hw]
      simp only [D] at hD ⊢
      cases hs : stepG (c :: r) (n - (out.length : Int)) with
      | none =>
        obtain ⟨g, a, e, z', f, l', hg⟩ := group_none K (by omega) at_ z fa _ hl _ hs
        rw [hg, Option.bind_some]
        dsimp only
        rw [if_neg (by decide)]
        rfl
      | some p =>
        obtain ⟨a, hg⟩ := group_some K (by omega) at_ z fa _ hl _ p hs
        obtain ⟨q1, q2, q3, q4, q5⟩ := step_less hl hs
        rw [hg, Option.bind_some]
        dsimp only
        rw [if_pos rfl]
        rw [hs, Option.bind_some] at hD
        rw [Option.bind_some]
        have ho' : ((out ++ p.2).length : Int) ≤ n ∨ out ++ p.2 = [] := .inl (by rw [List.length_append]; omega)
        have hout := D_bound ho' hD
        have hlen : (out ++ p.2).length = out.length + p.2.length := List.length_append
        simp only [List.length_cons] at h1 q1
        rw [if_pos (by rw [← hlen]; omega), ih K a z fa p.1 (out ++ p.2) q4 (by omega) (by omega) ho' hD]
theorem decode_eq (b : List Int) (hb : Ok b) (n : Int) (hn : -9223372036854775808 ≤ n ∧ n ≤ 9223372036854775807) (K : Nat) (hK : 420000 ≤ K) (hD : n ≤ 90000 ∨ ∃ o, D b.length b [] n = some o ∧ o.length ≤ 90000) : runs_Decode.f K b n = some (ans b n (D b.length b [] n)) := by
  unfold runs_Decode.f cursor_Open.f
  have := hb.2
  rw [clone_eq b (by omega), Option.bind_some, Option.bind_some]
  exact decode_loop b n hn b.length K _ 0 0 b [] hb (Nat.le_refl _) (by omega) (.inr rfl) hD
theorem ans_none {b : List Int} {n : Int} {o : Option (List Int)} (h : (ans b n o).2 = false) : (ans b n o).1 = [] := by
  unfold ans at h ⊢
  cases o with
  | none => rfl
  | some out =>
    by_cases e : (out.length : Int) = n
    · by_cases e2 : same (E out) b = true
      · simp only [if_pos e, if_pos e2] at h; cases h
      · simp only [if_pos e, if_neg e2]
    · simp only [if_neg e]
theorem ans_some {b : List Int} {n : Int} {o : Option (List Int)} (h : (ans b n o).2 = true) : (((ans b n o).1).length : Int) = n ∧ same (E (ans b n o).1) b = true := by
  unfold ans at h ⊢
  cases o with
  | none => cases h
  | some out =>
    by_cases e : (out.length : Int) = n
    · by_cases e2 : same (E out) b = true
      · simp only [if_pos e, if_pos e2]; exact ⟨e, e2⟩
      · simp only [if_pos e, if_neg e2] at h; cases h
    · simp only [if_neg e] at h; cases h

theorem tmod2 {n : Int} (h : 0 ≤ n) : Int.tmod n 2 = n % 2 := Int.tmod_eq_emod_of_nonneg h
theorem tdiv2 {n : Int} (h : 0 ≤ n) : Int.tdiv n 2 = n / 2 := Int.tdiv_eq_ediv_of_nonneg h
theorem alike_loop (b : List Int) (hl : b.length ≤ 100000) (at_ : Nat) (ha : at_ < b.length) (d : Nat) : ∀ (K m : Nat), at_ + m ≤ b.length → b.length - (at_ + m) = d → d < K → deckleref05_alike.l0 K b (at_ : Int) (m : Int) = some ((m + lk (b[at_]) (b.drop (at_ + m)) : Nat) : Int) := by
  induction d with
  | zero =>
    intro K m h1 h2 hK
    obtain ⟨K, rfl⟩ : ∃ q, K = q + 1 := ⟨K - 1, by omega⟩
    have e1 : wrap64 ((at_ : Int) + (m : Int)) = ((at_ + m : Nat) : Int) := by rw [w64 (by omega) (by omega)]; omega
    rw [deckleref05_alike.l0, e1, if_neg (by omega), List.drop_eq_nil_of_le (by omega)]
    rfl
  | succ d ih =>
    intro K m h1 h2 hK
    obtain ⟨K, rfl⟩ : ∃ q, K = q + 1 := ⟨K - 1, by omega⟩
    have h3 : at_ + m < b.length := by omega
    have e1 : wrap64 ((at_ : Int) + (m : Int)) = ((at_ + m : Nat) : Int) := by rw [w64 (by omega) (by omega)]; omega
    rw [deckleref05_alike.l0, e1, if_pos (by omega), if_pos (by omega), if_pos (by omega), if_pos (by omega), rd_at b (at_ + m) h3, rd_at b at_ ha, List.drop_eq_getElem_cons h3]
    unfold lk
    by_cases e : b[at_ + m] = b[at_]
    · rw [if_pos e, if_pos e, show wrap64 ((m : Int) + 1) = ((m + 1 : Nat) : Int) by rw [w64 (by omega) (by omega)]; omega, ih K (m + 1) (by omega) (by omega) (by omega), show at_ + (m + 1) = at_ + m + 1 by omega]
      congr 2
      omega
    · rw [if_neg e, if_neg e]
      rfl
theorem alike_eq (b : List Int) (hl : b.length ≤ 100000) (at_ : Nat) (c : Int) (r : List Int) (h : b.drop at_ = c :: r) (K : Nat) (hK : b.length < K) : deckleref05_alike.f K b (at_ : Int) = some ((lk c r + 1 : Nat) : Int) := by
  have ha : at_ < b.length := by
    rcases Nat.lt_or_ge at_ b.length with h1 | h1
    · exact h1
    · rw [List.drop_eq_nil_of_le h1] at h; cases h
  have h2 := List.drop_eq_getElem_cons ha
  rw [h] at h2
  injection h2 with h3 h4
  unfold deckleref05_alike.f
  have h5 := alike_loop b hl at_ ha (b.length - at_) K 0 (by omega) (by omega) (by omega)
  rw [show (0 : Int) = ((0 : Nat) : Int) from rfl, h5, Nat.add_zero, h, ← h3, lk_cons, if_pos rfl, Nat.zero_add]
theorem refput_eq (v : Nat) (hv : v < 18446744073709551616) (K : Nat) (hK : 60 ≤ K) : deckleref03_Put.f K [] [(v : Int)] = some (enc v) := by
  unfold deckleref03_Put.f
  rw [Option.bind_some, if_pos (by decide)]
  have h := refput_all [(v : Int)] (fun x hx => by rw [List.mem_singleton.1 hx]; unfold isU64; omega) (by simp) 1 K 0 [] (by simp) (by simp) (by omega) (by simp)
  rw [show (0 : Int) = ((0 : Nat) : Int) from rfl, List.nil_append, h]
  simp [flat]
theorem refenc_lit (b : List Int) (hl : b.length ≤ 10000) (out : List Int) (ho : out.length ≤ 210000) (at_ : Nat)
    (IH : ∀ (a2 : Nat) (o2 : List Int) (K2 : Nat), at_ < a2 → a2 ≤ b.length → o2.length ≤ out.length + 20 + (a2 - at_) → b.length + 100 + 3 * (b.length - a2) ≤ K2 → deckleref05_Encode.l0 K2 b o2 (a2 : Int) = some (o2 ++ E (b.drop a2))) (d : Nat) :
    ∀ (K m : Nat), at_ ≤ m → m ≤ b.length → b.length - m ≤ d → at_ < m + btw (b.drop m) → b.length + 100 + 3 * (b.length - at_) ≤ K + (m - at_) + 1 →
      deckleref05_Encode.l1 K b out (at_ : Int) (m : Int) = some (out ++ (enc (2 * (m + btw (b.drop m) - at_ - 1)) ++ ((b.take (m + btw (b.drop m))).drop at_ ++ E (b.drop (m + btw (b.drop m)))))) := by
  have fin : ∀ (K m : Nat), at_ < m → m ≤ b.length → b.length + 100 + 3 * (b.length - m) ≤ K → ((deckleref03_Put.f K ([] : List Int) (([IntKind.u64.wrap (2 * (IntKind.u64.wrap (wrap64 ((wrap64 ((m : Int) - (at_ : Int))) - 1))))] : List Int))).bind fun t386 => (if out.length + t386.length < 140737488355328 then ((some (out ++ t386 : List Int)).bind fun y389 => (if 0 ≤ (at_ : Int) then (if (at_ : Int) ≤ (m : Int) then (if (m : Int) ≤ (b.length : Int) then (if y389.length + ((b.take (m : Int).toNat).drop (at_ : Int).toNat).length < 140737488355328 then (deckleref05_Encode.l0 K b (y389 ++ ((b.take (m : Int).toNat).drop (at_ : Int).toNat)) (m : Int)) else (none)) else (none)) else (none)) else (none))) else (none))) =
      some (out ++ (enc (2 * (m - at_ - 1)) ++ ((b.take m).drop at_ ++ E (b.drop m)))) := by
    intro K m h1 h2 hK
    have e1 : Aside0 (IntKind.u64.wrap (2 * IntKind.u64.wrap (wrap64 (wrap64 ((m : Int) - (at_ : Int)) - 1))) = ((2 * (m - at_ - 1) : Nat) : Int)) := ⟨by
      rw [w64 (n := (m : Int) - (at_ : Int)) (by omega) (by omega), w64 (by omega) (by omega), u64w (n := (m : Int) - (at_ : Int) - 1) (by omega) (by omega), u64w (by omega) (by omega)]; omega⟩
    have h3 := enc_ten (2 * (m - at_ - 1)) (by omega)
    have h4 : ((b.take m).drop at_).length = m - at_ := by rw [List.length_drop, List.length_take]; omega
    rw [e1.out, refput_eq _ (by omega) K (by omega), Option.bind_some, if_pos (by omega), Option.bind_some, if_pos (by omega), if_pos (by omega), if_pos (by omega), Int.toNat_natCast, Int.toNat_natCast, if_pos (by rw [List.length_append, h4]; omega), IH m _ K h1 h2 (by rw [List.length_append, List.length_append, h4]; omega) hK]
    simp only [List.append_assoc]
  induction d with
  | zero =>
    intro K m h1 h2 h3 h4 hK
    obtain ⟨K, rfl⟩ : ∃ q, K = q + 1 := ⟨K - 1, by omega⟩
    have hb : btw (b.drop m) = 0 := by rw [List.drop_eq_nil_of_le (by omega), btw_nil]
    rw [hb, Nat.add_zero] at h4 ⊢
    rw [deckleref05_Encode.l1, if_neg (by omega)]
    exact fin K m h4 h2 (by omega)
  | succ d ih =>
    intro K m h1 h2 h3 h4 hK
    obtain ⟨K, rfl⟩ : ∃ q, K = q + 1 := ⟨K - 1, by omega⟩
    by_cases hm : m < b.length
    · have hc := List.drop_eq_getElem_cons hm
      have hk := lk_le b[m] (b.drop (m + 1))
      rw [List.length_drop] at hk
      have hal := alike_eq b (by omega) m _ _ hc K (by omega)
      have hbt := btw_cons b[m] (b.drop (m + 1))
      rw [← hc] at hbt
      obtain ⟨L, hL⟩ : ∃ L, lk b[m] (b.drop (m + 1)) = L := ⟨_, rfl⟩
      rw [hL] at hk hal hbt
      clear hL
      rw [deckleref05_Encode.l1, if_pos (by clear hbt; omega), hal, Option.bind_some]
      by_cases h5 : 3 ≤ L + 1
      · rw [if_pos h5] at hbt
        rw [hbt, Nat.add_zero] at h4 ⊢
        clear hbt
        rw [if_neg (by omega)]
        exact fin K m h4 h2 (by omega)
      · rw [if_neg h5] at hbt
        have e2 : Aside0 (wrap64 ((m : Int) + ((L + 1 : Nat) : Int)) = ((m + (L + 1) : Nat) : Int)) := ⟨by clear hbt h4; rw [w64 (by omega) (by omega)]; omega⟩
        have e3 : (b.drop (m + 1)).drop L = b.drop (m + (L + 1)) := by rw [List.drop_drop, show m + 1 + L = m + (L + 1) by clear hbt h4; omega]
        rw [e3] at hbt
        rw [hbt] at h4 ⊢
        clear hbt
        have ihm := ih K (m + (L + 1)) (by clear h4; omega) (by clear h4; omega) (by clear h4; omega)
        obtain ⟨N, hN⟩ : ∃ N, btw (b.drop (m + (L + 1))) = N := ⟨_, rfl⟩
        rw [hN] at h4 ihm ⊢
        clear hN
        rw [show m + (L + 1 + N) = m + (L + 1) + N by omega] at h4 ⊢
        rw [if_pos (by omega), Option.bind_some, e2.out]
        exact ihm h4 (by omega)
    · have hb : btw (b.drop m) = 0 := by rw [List.drop_eq_nil_of_le (by omega), btw_nil]
      rw [hb, Nat.add_zero] at h4 ⊢
      rw [deckleref05_Encode.l1, if_neg (by omega)]
      exact fin K m h4 h2 (by omega)
theorem refenc_loop (b : List Int) (hl : b.length ≤ 10000) (d : Nat) : ∀ (a : Nat) (out : List Int) (K : Nat), a ≤ b.length → b.length - a ≤ d → out.length + 21 * (b.length - a) ≤ 210000 → b.length + 100 + 3 * (b.length - a) ≤ K → deckleref05_Encode.l0 K b out (a : Int) = some (out ++ E (b.drop a)) := by
  induction d with
  | zero =>
    intro a out K h1 h2 h3 hK
    obtain ⟨K, rfl⟩ : ∃ q, K = q + 1 := ⟨K - 1, by omega⟩
    rw [deckleref05_Encode.l0, if_neg (by omega), List.drop_eq_nil_of_le (by omega), E_nil, List.append_nil]
  | succ d ih =>
    intro a out K h1 h2 h3 hK
    obtain ⟨K, rfl⟩ : ∃ q, K = q + 1 := ⟨K - 1, by omega⟩
    by_cases ha : a < b.length
    · have hc := List.drop_eq_getElem_cons ha
      have hk := lk_le b[a] (b.drop (a + 1))
      rw [List.length_drop] at hk
      have hal := alike_eq b (by omega) a _ _ hc K (by omega)
      have hbt := btw_cons b[a] (b.drop (a + 1))
      have hE0 := fun h : btw (b[a] :: b.drop (a + 1)) = 0 => E_run h
      obtain ⟨L, hL⟩ : ∃ L, lk b[a] (b.drop (a + 1)) = L := ⟨_, rfl⟩
      rw [hL] at hk hal hbt
      simp only [hL] at hE0
      clear hL
      rw [deckleref05_Encode.l0, if_pos (by clear hbt; omega), hal, Option.bind_some]
      by_cases h5 : 3 ≤ L + 1
      · rw [if_pos h5] at hbt
        have hE := hE0 hbt
        clear hbt hE0
        have e1 : Aside0 (IntKind.u64.wrap (IntKind.u64.wrap (2 * IntKind.u64.wrap (wrap64 (((L + 1 : Nat) : Int) - 3))) + 1) = ((2 * (L + 1 - 3) + 1 : Nat) : Int)) := ⟨by
          rw [w64 (by omega) (by omega), u64w (n := ((L + 1 : Nat) : Int) - 3) (by omega) (by omega), u64w (n := 2 * (((L + 1 : Nat) : Int) - 3)) (by omega) (by omega), u64w (by omega) (by omega)]; omega⟩
        have e2 : Aside0 (wrap64 ((a : Int) + ((L + 1 : Nat) : Int)) = ((a + (L + 1) : Nat) : Int)) := ⟨by rw [w64 (by omega) (by omega)]; omega⟩
        have h6 := enc_ten (2 * (L + 1 - 3) + 1) (by omega)
        rw [if_pos (by omega), e1.out, refput_eq _ (by omega) K (by omega), Option.bind_some, if_pos (by omega), Option.bind_some, if_pos (by omega), if_pos (by rw [List.length_append]; omega), rd_at b a ha, e2.out,
          ih _ _ K (by omega) (by omega) (by simp only [List.length_append, List.length_singleton]; omega) (by omega), hc, hE, List.drop_drop, show a + 1 + L = a + (L + 1) by omega]
        simp only [List.append_assoc, List.singleton_append]
      · rw [if_neg h5] at hbt
        have hb : btw (b[a] :: b.drop (a + 1)) ≠ 0 := by rw [hbt]; exact Nat.ne_of_gt (Nat.lt_of_lt_of_le (Nat.succ_pos L) (Nat.le_add_right _ _))
        have hE := E_lit hb
        rw [← hc] at hb hE
        clear hbt hE0 hal
        rw [if_neg (by omega)]
        have hle := btw_le _ (b.drop a) (Nat.le_refl _)
        rw [List.length_drop] at hle
        have hlit := refenc_lit b hl out (by clear hb hle hE; omega) a (fun a2 o2 K2 g1 g2 g3 g4 => ih a2 o2 K2 g2 (by clear hb hle hE; omega) (by clear hb hle hE; omega) g4) (b.length - a) K a (Nat.le_refl _) (by clear hb hle hE; omega) (Nat.le_refl _) (Nat.lt_add_of_pos_right (Nat.pos_of_ne_zero hb)) (by clear hb hle hE; omega)
        rw [hlit, hE]
        clear hlit hE
        obtain ⟨N, hN⟩ : ∃ N, btw (b.drop a) = N := ⟨_, rfl⟩
        rw [hN] at hb hle ⊢
        clear hN
        rw [show a + N - a - 1 = N - 1 by omega, ← List.drop_drop, List.drop_take, show a + N - a = N by omega]
    · rw [deckleref05_Encode.l0, if_neg (by omega), List.drop_eq_nil_of_le (by omega), E_nil, List.append_nil]
theorem refencode_eq (b : List Int) (hl : b.length ≤ 9000) (K : Nat) (hK : 40000 ≤ K) : deckleref05_Encode.f K b = some (E b) := by
  unfold deckleref05_Encode.f
  have h := refenc_loop b (by omega) b.length 0 [] K (by omega) (by omega) (by simp only [List.length_nil]; omega) (by omega)
  rw [show (0 : Int) = ((0 : Nat) : Int) from rfl, h, List.drop_zero, List.nil_append]
theorem rfail (at_ e z fa : Int) (l : List Int) (x : Int) (hx : x ≠ 0) : deckleref04_Cursor_Fail.f l at_ e z fa x = some ([], at_, (if e = 0 then x else e), (if e = 0 then 0 else z), (if e = 0 then at_ else fa)) := by
  unfold deckleref04_Cursor_Fail.f
  rw [if_neg hx]
  by_cases h : e = 0
  · simp only [if_pos h]
  · simp only [if_neg h]
theorem rtake_ok (at_ e z fa : Int) (l : List Int) (hl : Ok l) (n : Int) (h0 : 0 ≤ n) (h1 : n ≤ l.length) : deckleref04_Cursor_Take.f l at_ e z fa n = some (l.take n.toNat, l.drop n.toNat, wrap64 (at_ + n), e, z, fa) := by
  unfold deckleref04_Cursor_Take.f
  have := hl.2
  rw [if_neg (by omega), if_pos (by omega)]
theorem rtake_bad (at_ e z fa : Int) (l : List Int) (n : Int) (h1 : (l.length : Int) < n) : deckleref04_Cursor_Take.f l at_ e z fa n = some ([], [], at_, (if e = 0 then 2 else e), (if e = 0 then 0 else z), (if e = 0 then at_ else fa)) := by
  unfold deckleref04_Cursor_Take.f
  rw [if_pos (by omega), rfail _ _ _ _ _ 2 (by decide), Option.bind_some]
theorem rnum_ok (K : Nat) (hK : 50 ≤ K) (at_ z fa : Int) (l : List Int) (hl : Ok l) (n s : Int) (ht : tk l 0 0 = (n, s, 0)) (hn : isU64 n) (hw : n ≤ wide) (h1 : 1 ≤ s) (h2 : s ≤ l.length) : deckleref04_Cursor_Num.f K l at_ 0 z fa 1099511627776 = some (n, l.drop s.toNat, wrap64 (at_ + s), 0, z, fa) := by
  obtain ⟨K, rfl⟩ : ∃ q, K = q + 2 := ⟨K - 2, by omega⟩
  unfold wide at hw
  unfold isU64 at hn
  unfold deckleref04_Cursor_Num.f deckleref04_Cursor_number.f
  rw [reftake_eq l hl.1 hl.2 (K + 2) (by omega), ht, Option.bind_some, if_pos rfl, Option.bind_some]
  dsimp only
  rw [if_neg (by omega), if_neg (by decide), u64w (by decide) (by decide), decide_eq_false (by omega), deckleref04_Cursor_Num.j0, if_neg (by decide), rtake_ok _ _ _ _ _ hl s (by omega) h2, Option.bind_some, w64 (n := n) (by omega) (by omega)]
theorem rnum_bad (K : Nat) (hK : 50 ≤ K) (at_ z fa : Int) (l : List Int) (hl : Ok l) (h : (tk l 0 0).2.2 ≠ 0 ∨ (tk l 0 0).1 > wide) : ∃ a e z' f : Int, e ≠ 0 ∧ deckleref04_Cursor_Num.f K l at_ 0 z fa 1099511627776 = some (0, [], a, e, z', f) := by
  obtain ⟨K, rfl⟩ : ∃ q, K = q + 2 := ⟨K - 2, by omega⟩
  unfold deckleref04_Cursor_Num.f deckleref04_Cursor_number.f
  rw [reftake_eq l hl.1 hl.2 (K + 2) (by omega), Option.bind_some]
  rcases tk_cases l hl with ⟨n, s, ht, hn, h1, h2⟩ | ⟨x, ht, hx⟩
  · rw [ht] at h ⊢
    have hw : n > 1099511627776 := by
      rcases h with h | h
      · exact absurd rfl h
      · exact h
    rw [if_pos rfl, Option.bind_some]
    dsimp only
    rw [if_neg (by omega), if_neg (by decide), u64w (by decide) (by decide), decide_eq_true hw, deckleref04_Cursor_Num.j0, if_pos rfl, rfail _ _ _ _ _ 3 (by decide), Option.bind_some]
    exact ⟨_, _, _, _, (by decide : (3 : Int) ≠ 0), rfl⟩
  · rw [ht] at h ⊢
    rw [if_neg hx, rfail _ _ _ _ _ x hx, Option.bind_some, Option.bind_some, if_pos rfl]
    exact ⟨_, _, _, _, (by rw [if_pos rfl]; exact hx : (if (0 : Int) = 0 then x else 0) ≠ 0), rfl⟩
theorem ref_fill (n : Int) (x m : Int) (hm : m ≤ 100000) (l : List Int) (at_ e z fa : Int) (d : Nat) : ∀ (K j : Nat) (out : List Int), (j : Int) ≤ m → m.toNat - j = d → out.length + d ≤ 100000 → deckleref05_groups.l1 (K + d + 1) n out m x (j : Int) l at_ e z fa = if e = 0 then deckleref05_groups.l0 K n (out ++ List.replicate d x) l at_ e z fa else some ([], false) := by
  induction d with
  | zero =>
    intro K j out h1 h2 ho
    rw [deckleref05_groups.l1, if_neg (by omega), List.replicate_zero, List.append_nil]
  | succ d ih =>
    intro K j out h1 h2 ho
    rw [show K + (d + 1) + 1 = (K + d + 1) + 1 by omega, deckleref05_groups.l1, if_pos (by omega), if_pos (by omega), show wrap64 ((j : Int) + 1) = ((j + 1 : Nat) : Int) by rw [w64 (by omega) (by omega)]; omega, ih K (j + 1) _ (by omega) (by omega) (by simp only [List.length_append, List.length_singleton]; omega), List.append_assoc, List.singleton_append, ← List.replicate_succ]
def got (o : Option (List Int)) : List Int × Bool := match o with
  | none => ([], false)
  | some out => (out, true)
def Fu : Nat → Nat
  | 0 => 6100
  | d + 1 => Fu d + 6000
theorem Fu_eq : ∀ d, Fu d = d * 6000 + 6100
  | 0 => rfl
  | d + 1 => by
    rw [Fu, Fu_eq d, Nat.succ_mul]
theorem Fu_le (d : Nat) (h : d ≤ 500) : 6100 ≤ Fu d ∧ Fu d ≤ 3100000 := by
  rw [Fu_eq]
  exact ⟨Nat.le_add_left _ _, Nat.le_trans (Nat.add_le_add_right (Nat.mul_le_mul_right 6000 h) 6100) (by decide)⟩
theorem groups_loop (n : Int) (hn : -9223372036854775808 ≤ n ∧ n ≤ 5000) (d : Nat) : ∀ (K : Nat) (at_ z fa : Int) (l out : List Int), Ok l → l.length ≤ d → Fu d ≤ K → d ≤ 500 → ((out.length : Int) ≤ n ∨ out = []) → deckleref05_groups.l0 K n out l at_ 0 z fa = some (got (D d l out n)) := by
  induction d with
  | zero =>
    intro K at_ z fa l out hl h1 hK h5 ho
    obtain rfl := List.eq_nil_of_length_eq_zero (Nat.le_zero.1 h1)
    have hF := Fu_le 0 (by omega)
    obtain ⟨K, rfl⟩ : ∃ q, K = q + 1 := ⟨K - 1, by omega⟩
    rw [deckleref05_groups.l0]
    unfold deckleref04_Cursor_Left.f
    rw [Option.bind_some]
    dsimp only
    rw [if_neg (by decide)]
    rfl
  | succ d ih =>
    intro K at_ z fa l out hl h1 hK h5 ho
    have hF := Fu_le d (by omega)
    rw [Fu] at hK
    obtain ⟨K, rfl⟩ : ∃ q, K = q + 2 := ⟨K - 2, by omega⟩
    rw [deckleref05_groups.l0]
    unfold deckleref04_Cursor_Left.f
    rw [Option.bind_some]
    dsimp only
    cases l with
    | nil =>
      rw [if_neg (by decide)]
      rfl
    | cons c r =>
      rw [if_pos (by simp only [List.length_cons]; omega)]
      have hol : out.length ≤ 5000 := by
        rcases ho with ho | rfl
        · omega
        · exact Nat.zero_le _
      have hw : Aside0 (wrap64 (n - (out.length : Int)) = n - (out.length : Int)) := by
        refine ⟨?_⟩
        rcases ho with ho | rfl
        · exact w64 (by omega) (by omega)
        · exact w64 (by simp only [List.length_nil]; omega) (by simp only [List.length_nil]; omega)
      simp only [D]
      cases hs : stepG (c :: r) (n - (out.length : Int)) with
      | none =>
        show _ = some (([] : List Int), false)
        unfold stepG at hs
        by_cases hb : (tk (c :: r) 0 0).2.2 ≠ 0 ∨ (tk (c :: r) 0 0).1 > wide
        · obtain ⟨a, e, z', f, he, hnum⟩ := rnum_bad (K + 1) (by omega) at_ z fa _ hl hb
          rw [hnum, Option.bind_some]
          dsimp only
          rw [if_neg (by decide), deckleref05_groups.j1, hw.out]
          have e1 : wrap64 (wrap64 (Int.tdiv 0 2) + 1) = 1 := by rw [tdiv2 (by decide), w64 (n := (0 : Int) / 2) (by decide) (by decide), w64 (by decide) (by decide)]; rfl
          rw [e1]
          by_cases hm : (1 : Int) > n - (out.length : Int)
          · rw [if_pos hm]
          · rw [if_neg hm, if_pos (by decide), rtake_bad _ _ _ _ _ 1 (by decide), Option.bind_some]
            dsimp only
            rw [if_pos (by simp only [List.length_nil]; omega), if_neg he, if_neg he]
        · rw [if_neg hb] at hs
          rcases tk_cases (c :: r) hl with ⟨k, s, ht, hk, q1, q2⟩ | ⟨x, ht, hx⟩
          · rw [ht] at hs hb
            have hwd : k ≤ wide := by
              rcases Int.lt_or_le wide k with c2 | c2
              · exact absurd (.inr c2) hb
              · exact c2
            have hwd' := hwd
            unfold wide at hwd'
            unfold isU64 at hk
            rw [rnum_ok (K + 1) (by omega) at_ z fa _ hl k s ht hk hwd q1 q2, Option.bind_some]
            dsimp only
            rw [tmod2 hk.1, tdiv2 hk.1, w64 (n := k / 2) (by omega) (by omega)]
            by_cases hodd : k % 2 = 1
            · rw [if_pos hodd, deckleref05_groups.j1, hw.out, w64 (n := k / 2 + 3) (by omega) (by omega), tmod2 hk.1, if_neg (c := k % 2 = 0) (by omega)]
              simp only [hodd, if_true] at hs
              by_cases hm : k / 2 + 3 > n - (out.length : Int)
              · rw [if_pos hm]
              · rw [if_neg hm] at hs
                cases hd : (c :: r).drop s.toNat with
                | cons c2 r2 => rw [hd] at hs; simp at hs
                | nil =>
                  rw [if_neg hm]
                  unfold deckleref04_Cursor_Byte.f
                  rw [rtake_bad _ _ _ _ _ 1 (by decide), Option.bind_some]
                  dsimp only
                  rw [if_pos (show ((([] : List Int).length : Nat) : Int) = 0 from rfl), Option.bind_some]
                  dsimp only
                  obtain ⟨K3, hK3⟩ : ∃ q, K = q + (k / 2 + 3).toNat + 1 := ⟨K - (k / 2 + 3).toNat - 1, by omega⟩
                  have := ref_fill n 0 (k / 2 + 3) (by omega) [] (wrap64 (at_ + s)) (if (0 : Int) = 0 then 2 else 0) (if (0 : Int) = 0 then 0 else z) (if (0 : Int) = 0 then wrap64 (at_ + s) else fa) (k / 2 + 3).toNat K3 0 out (by omega) (by omega) (by omega)
                  rw [← hK3] at this
                  rw [show (0 : Int) = ((0 : Nat) : Int) from rfl] at this ⊢
                  rw [this, if_neg (by decide)]
            · rw [if_neg hodd, deckleref05_groups.j1, hw.out, w64 (n := k / 2 + 1) (by omega) (by omega), tmod2 hk.1, if_pos (c := k % 2 = 0) (by omega)]
              simp only [hodd, if_false] at hs
              by_cases hm : k / 2 + 1 > n - (out.length : Int)
              · rw [if_pos hm]
              · by_cases hl2 : k / 2 + 1 > (((c :: r).drop s.toNat).length : Int)
                · rw [if_neg hm, rtake_bad _ _ _ _ _ (k / 2 + 1) (by omega), Option.bind_some]
                  dsimp only
                  rw [if_pos (by simp only [List.length_nil]; omega), if_neg (by decide)]
                · rw [if_neg (by omega)] at hs
                  cases hs
          · rw [ht] at hb
            exact absurd (.inl hx) hb
      | some p =>
        obtain ⟨g1, g2, g3, g4, g5⟩ := step_less hl hs
        have ho' : ((out ++ p.2).length : Int) ≤ n ∨ out ++ p.2 = [] := .inl (by rw [List.length_append]; omega)
        simp only [List.length_cons] at h1 g1
        rw [Option.bind_some]
        unfold stepG at hs
        by_cases hb : (tk (c :: r) 0 0).2.2 ≠ 0 ∨ (tk (c :: r) 0 0).1 > wide
        · rw [if_pos hb] at hs; cases hs
        · rw [if_neg hb] at hs
          rcases tk_cases (c :: r) hl with ⟨k, s, ht, hk, q1, q2⟩ | ⟨x, ht, hx⟩
          · rw [ht] at hs hb
            have hwd : k ≤ wide := by
              rcases Int.lt_or_le wide k with c2 | c2
              · exact absurd (.inr c2) hb
              · exact c2
            have hwd' := hwd
            unfold wide at hwd'
            unfold isU64 at hk
            rw [rnum_ok (K + 1) (by omega) at_ z fa _ hl k s ht hk hwd q1 q2, Option.bind_some]
            dsimp only
            rw [tmod2 hk.1, tdiv2 hk.1, w64 (n := k / 2) (by omega) (by omega)]
            by_cases hodd : k % 2 = 1
            · rw [if_pos hodd, deckleref05_groups.j1, hw.out, w64 (n := k / 2 + 3) (by omega) (by omega), tmod2 hk.1, if_neg (c := k % 2 = 0) (by omega)]
              simp only [hodd, if_true] at hs
              by_cases hm : k / 2 + 3 > n - (out.length : Int)
              · rw [if_pos hm] at hs; cases hs
              · rw [if_neg hm] at hs
                cases hd : (c :: r).drop s.toNat with
                | nil => rw [hd] at hs; simp at hs
                | cons c2 r2 =>
                  rw [hd] at hs
                  simp only [Option.some.injEq] at hs
                  have hok := hl.drop s.toNat
                  rw [hd] at hok
                  rw [if_neg hm]
                  unfold deckleref04_Cursor_Byte.f
                  rw [rtake_ok _ _ _ _ _ hok 1 (by decide) (by simp only [List.length_cons]; omega), Option.bind_some, show ((c2 :: r2).take (1 : Int).toNat) = [c2] from rfl, show ((c2 :: r2).drop (1 : Int).toNat) = r2 from rfl]
                  dsimp only
                  rw [if_neg (show ¬ (([c2].length : Nat) : Int) = 0 from by simp), if_pos (show (0 : Int) < (([c2].length : Nat) : Int) from Int.zero_lt_one), Option.bind_some, show rd [c2] 0 = c2 from rfl]
                  dsimp only
                  obtain ⟨K3, hK3⟩ : ∃ q, K = q + (k / 2 + 3).toNat + 1 := ⟨K - (k / 2 + 3).toNat - 1, by omega⟩
                  have := ref_fill n c2 (k / 2 + 3) (by omega) r2 (wrap64 (wrap64 (at_ + s) + 1)) 0 z fa (k / 2 + 3).toNat K3 0 out (by omega) (by omega) (by omega)
                  rw [← hK3, if_pos rfl] at this
                  rw [show ((0 : Nat) : Int) = (0 : Int) from rfl] at this
                  subst hs
                  dsimp only at g1 g2 g4 ho' ⊢
                  rw [this, ih K3 _ z fa r2 _ g4 (by omega) (by omega) (by omega) ho']
            · rw [if_neg hodd, deckleref05_groups.j1, hw.out, w64 (n := k / 2 + 1) (by omega) (by omega), tmod2 hk.1, if_pos (c := k % 2 = 0) (by omega)]
              simp only [hodd, if_false] at hs
              by_cases hm : k / 2 + 1 > n - (out.length : Int) ∨ k / 2 + 1 > (((c :: r).drop s.toNat).length : Int)
              · rw [if_pos hm] at hs; cases hs
              · rw [if_neg hm] at hs
                simp only [Option.some.injEq] at hs
                subst hs
                dsimp only at g2 g4 ho' g1 ⊢
                rw [if_neg (by omega), rtake_ok _ _ _ _ _ (hl.drop _) (k / 2 + 1) (by omega) (by omega), Option.bind_some]
                dsimp only
                rw [if_pos (by omega), if_pos rfl, ih K _ z fa _ _ g4 (by omega) (by omega) (by omega) ho']
          · rw [ht] at hb
            exact absurd (.inl hx) hb
theorem groups_eq (b : List Int) (hb : Ok b) (hb5 : b.length ≤ 500) (n : Int) (hn : -9223372036854775808 ≤ n ∧ n ≤ 5000) (K : Nat) (hK : 4000000 ≤ K) : deckleref05_groups.f K b n = some (got (D b.length b [] n)) := by
  unfold deckleref05_groups.f deckleref04_Open.f
  rw [Option.bind_some, if_pos (by simp only [List.length_nil]; omega), Option.bind_some]
  have hF := Fu_le b.length hb5
  exact groups_loop n hn b.length K _ 0 0 b [] hb (Nat.le_refl _) (by omega) hb5 (.inr rfl)
theorem D_upto (n : Int) (d : Nat) : ∀ (l out o : List Int), Ok l → ((out.length : Int) ≤ n ∨ out = []) → D d l out n = some o → (o.length : Int) ≤ n ∨ o = [] := by
  induction d with
  | zero =>
    intro l out o hl ho h
    cases l with
    | nil => simp only [D, Option.some.injEq] at h; rwa [← h]
    | cons c r => simp only [D] at h; cases h
  | succ d ih =>
    intro l out o hl ho h
    cases l with
    | nil => simp only [D, Option.some.injEq] at h; rwa [← h]
    | cons c r =>
      simp only [D] at h
      obtain ⟨p, hp, h⟩ := Option.bind_eq_some_iff.1 h
      obtain ⟨_, g2, _, g4, _⟩ := step_less hl hp
      exact ih p.1 _ o g4 (.inl (by rw [List.length_append]; omega)) h
theorem refdecode_eq (b : List Int) (hb : Ok b) (hb5 : b.length ≤ 500) (n : Int) (hn : -9223372036854775808 ≤ n ∧ n ≤ 5000) (K : Nat) (hK : 4000000 ≤ K) : deckleref05_Decode.f K b n = some (ans b n (D b.length b [] n)) := by
  unfold deckleref05_Decode.f
  rw [groups_eq b hb hb5 n hn K hK, Option.bind_some]
  cases hD : D b.length b [] n with
  | none =>
    unfold got
    dsimp only
    rw [if_neg (by decide)]
    rfl
  | some o =>
    unfold got ans
    dsimp only
    rw [if_pos rfl]
    by_cases e : (o.length : Int) = n
    · rw [if_pos e, if_pos e, refencode_eq o (by omega) K (by omega), Option.bind_some]
      by_cases e2 : (strOfNums (E o)).toList = (strOfNums b).toList
      · rw [if_pos e2, if_pos (by unfold same; rw [e2]; exact beq_self_eq_true _)]
      · rw [if_neg e2, if_neg (by unfold same; simpa using e2)]
    · rw [if_neg e, if_neg e]
theorem tells_at (K : Nat) (hK : 5000000 ≤ K) (b : List Int) (n : Int) (hwf : ∀ x ∈ b, (Lit.int .u8 x).wf = true) (hn : (Lit.int .i64 n).wf = true) : decklelaw05_RunsTells.f K b n = some true := by
  obtain ⟨K, rfl⟩ : ∃ q, K = q + 1 := ⟨K - 1, by omega⟩
  have hn := int_of_wf hn
  have h0 : decklelaw05_RunsTells.j0 (K + 1) b n true true = some true := by rw [decklelaw05_RunsTells.j0, if_pos rfl]
  unfold decklelaw05_RunsTells.f
  rw [small_all (K + 1) (by omega), Option.bind_some]
  by_cases h : (b.length : Int) > 500
  · rw [if_pos h, h0]
  · rw [if_neg h]
    by_cases h2 : n > 5000
    · rw [decide_eq_true h2, h0]
    · have hok : Ok b := ⟨byte_of_wf b hwf, by omega⟩
      rw [decide_eq_false h2, decklelaw05_RunsTells.j0, if_neg (by decide), decode_eq b hok n hn K (by omega) (.inl (by omega)), Option.bind_some, refdecode_eq b hok (by omega) n (by omega) K (by omega), Option.bind_some, if_pos rfl, encode_eq b (by omega) K (by omega), Option.bind_some, refencode_eq b (by omega) K (by omega), Option.bind_some, if_pos rfl, if_pos rfl, beq_self_eq_true]
theorem RunsTells : decklelaw05_RunsTells.Pure := by
  intro b n _ _ hwf hn
  exact ⟨5000000, tells_at 5000000 (Nat.le_refl _) b n hwf hn⟩

end Go.Proofs.Ytcbalpchfcifeaa.Pure
