import Derived.Test.YtgegbiknohjpgaaHCursorNumbersx5
import Derived.KernelRfl
namespace Go.Proofs.Ytgegbiknohjpgaa.Pure
open Go.RowKit Go.Proofs.Ytgegbiknohjpgaa.HCursorNumbers Go.Proofs.YtgegbiknohjpgaaW.PrintWords Go.Proofs.YtgegbiknohjpgaaW.PrintLast Go.Proofs.YtgegbiknohjpgaaW.PrintMore
set_option linter.unusedVariables false
set_option linter.unusedSimpArgs false

/-! plain facts on numbers as bytes -/
theorem w64 {n : Int} (h1 : -9223372036854775808 ≤ n) (h2 : n ≤ 9223372036854775807) : wrap64 n = n := by unfold wrap64; omega
theorem u64w {n : Int} (h1 : 0 ≤ n) (h2 : n < 18446744073709551616) : IntKind.u64.wrap n = n := by rw [IntKind.wrap_u64]; omega
def isByte (x : Int) : Prop := 0 ≤ x ∧ x ≤ 255
def isU64 (x : Int) : Prop := 0 ≤ x ∧ x ≤ 18446744073709551615
theorem byte_of_wf (b : List Int) (h : ∀ x ∈ b, (Lit.int .u8 x).wf = true) : ∀ x ∈ b, isByte x := fun x hx => by
  have := h x hx
  have e0 : IntKind.u8.min = 0 := by decide
  have e1 : IntKind.u8.max = 255 := by decide
  simp only [Lit.wf, Bool.and_eq_true, decide_eq_true_eq, e0, e1] at this
  exact this
theorem u64_of_wf {x : Int} (h : (Lit.int .u64 x).wf = true) : isU64 x := by
  have e0 : IntKind.u64.min = 0 := by decide
  have e1 : IntKind.u64.max = 18446744073709551615 := by decide
  simp only [Lit.wf, Bool.and_eq_true, decide_eq_true_eq, e0, e1] at h
  exact h
theorem int_of_wf {x : Int} (h : (Lit.int .i64 x).wf = true) : -9223372036854775808 ≤ x ∧ x ≤ 9223372036854775807 := by
  have e0 : IntKind.i64.min = -9223372036854775808 := by decide
  have e1 : IntKind.i64.max = 9223372036854775807 := by decide
  simp only [Lit.wf, Bool.and_eq_true, decide_eq_true_eq, e0, e1] at h
  exact h
theorem rd_at (b : List Int) (m : Nat) (h : m < b.length) : rd b (m : Int) = b[m] := by
  unfold rd
  rw [List.getD_eq_getElem?_getD, Int.toNat_natCast, List.getElem?_eq_getElem h]; rfl

/-- a number's bytes -/
def enc (n : Nat) : List Int := if n < 128 then [(n : Int)] else ((n % 128 + 128 : Nat) : Int) :: enc (n / 128)
termination_by n
decreasing_by omega
theorem enc_small {n : Nat} (h : n < 128) : enc n = [(n : Int)] := by rw [enc, if_pos h]
theorem enc_big {n : Nat} (h : ¬ n < 128) : enc n = ((n % 128 + 128 : Nat) : Int) :: enc (n / 128) := by rw [enc, if_neg h]
theorem enc_pos (n : Nat) : 1 ≤ (enc n).length := by
  by_cases h : n < 128
  · rw [enc_small h]; simp
  · rw [enc_big h]; simp
theorem enc_bytes (n : Nat) : ∀ x ∈ enc n, isByte x := by
  induction n using Nat.strongRecOn with
  | _ n ih =>
    by_cases h : n < 128
    · rw [enc_small h]
      intro x hx
      rw [List.mem_singleton.1 hx]
      exact ⟨by omega, by omega⟩
    · rw [enc_big h]
      intro x hx
      rcases List.mem_cons.1 hx with rfl | hx
      · exact ⟨by omega, by omega⟩
      · exact ih (n / 128) (by omega) x hx
theorem enc_len (k : Nat) : ∀ n, n < 128 ^ (k + 1) → (enc n).length ≤ k + 1 := by
  induction k with
  | zero => intro n h; rw [enc_small (by simpa using h)]; simp
  | succ k ih =>
    intro n h
    by_cases c : n < 128
    · rw [enc_small c]; simp
    · rw [enc_big c, List.length_cons]
      have := ih (n / 128) (Nat.div_lt_of_lt_mul (by rw [Nat.pow_succ] at h; omega))
      omega
theorem enc_ten (n : Nat) (h : n < 18446744073709551616) : (enc n).length ≤ 10 := enc_len 9 n (Nat.lt_of_lt_of_le h (by decide))

/-- what is read: of the bytes that are left, behind k of them -/
def tk : List Int → Nat → Int → Int × Int × Int
  | [], _, _ => (0, 0, 2)
  | c :: r, k, acc => if (k = 9 ∧ c > 1) ∨ (k > 0 ∧ c = 0) then (0, 0, 3) else if c < 128 then (acc + c * 128 ^ k, (k : Int) + 1, 0) else tk r (k + 1) (acc + (c - 128) * 128 ^ k)

theorem tk_nil (k : Nat) (acc : Int) : tk [] k acc = (0, 0, 2) := rfl
theorem tk_cons (c : Int) (r : List Int) (k : Nat) (acc : Int) : tk (c :: r) k acc = if (k = 9 ∧ c > 1) ∨ (k > 0 ∧ c = 0) then (0, 0, 3) else if c < 128 then (acc + c * 128 ^ k, (k : Int) + 1, 0) else tk r (k + 1) (acc + (c - 128) * 128 ^ k) := rfl
theorem p9 : (128 : Int) ^ 9 = 9223372036854775808 := by decide

theorem pow_le9 (k : Nat) (h : k ≤ 8) : (128 : Int) ^ k * 128 ≤ 9223372036854775808 ∧ 1 ≤ (128 : Int) ^ k := by
  match k, h with
  | 0, _ => decide
  | 1, _ => decide
  | 2, _ => decide
  | 3, _ => decide
  | 4, _ => decide
  | 5, _ => decide
  | 6, _ => decide
  | 7, _ => decide
  | 8, _ => decide
theorem shl_pow (k : Nat) (h : k ≤ 9) (c : Int) (h0 : 0 ≤ c) (h1 : c * 128 ^ k < 18446744073709551616) : shl .u64 c (wrap64 (7 * (k : Int))) = c * 128 ^ k := by
  rw [w64 (by omega) (by omega)]
  unfold shl
  rw [show (7 * (k : Int)).toNat = 7 * k by omega, Nat.min_eq_left (by show 7 * k ≤ 64; omega)]
  have e : (2 : Int) ^ (7 * k) = 128 ^ k := by rw [Int.pow_mul]; rfl
  rw [e]
  exact u64w (Int.mul_nonneg h0 (Int.pow_nonneg (by decide))) h1
theorem andNot128 (c : Int) (h : isByte c) : Go.bits .andNot .u8 c 128 = c % 128 := by
  obtain ⟨n, rfl⟩ := Int.eq_ofNat_of_zero_le h.1
  have h2 := h.2
  have e := Go.u8_andNot_nat n 128 (by omega) (by omega)
  rw [show (255 - 128 : Nat) = 127 from rfl, Go.nat_mask7] at e
  rw [show (128 : Int) = ((128 : Nat) : Int) from rfl, e]; omega
theorem or_low (k : Nat) (h : k ≤ 9) (acc c : Int) (h0 : 0 ≤ acc) (h1 : acc < 128 ^ k) (h2 : 0 ≤ c) (h3 : acc + c * 128 ^ k < 18446744073709551616) : Go.bits .or .u64 acc (c * 128 ^ k) = acc + c * 128 ^ k := by
  obtain ⟨a, rfl⟩ := Int.eq_ofNat_of_zero_le h0
  obtain ⟨m, rfl⟩ := Int.eq_ofNat_of_zero_le h2
  have e1 : ((m : Int) * 128 ^ k) = ((m * 128 ^ k : Nat) : Int) := by push_cast; rfl
  rw [e1] at h3 ⊢
  have h4 : a < 128 ^ k := by exact_mod_cast h1
  have e := Go.u64_or_nat a (m * 128 ^ k) (by omega) (by omega)
  have e2 : (128 : Nat) ^ k = 2 ^ (7 * k) := by rw [Nat.pow_mul]
  rw [e, Nat.or_comm, Go.nat_join (7 * k) (m * 128 ^ k) a (by rw [e2]; exact Nat.mul_mod_left _ _) (by rw [← e2]; exact h4)]
  push_cast; omega

theorem take_loop (b : List Int) (hb : ∀ x ∈ b, isByte x) (hl : b.length ≤ 100000) (d : Nat) : ∀ (K m : Nat) (acc : Int), m ≤ 9 → m ≤ b.length → 9 - m = d → 3 * d + 4 ≤ K → 0 ≤ acc → acc < 128 ^ m →
    varint_Take.l0 K acc b (b.length : Int) (m : Int) = some (tk (b.drop m) m acc) := by
  induction d with
  | zero =>
    intro K m acc h9 hm hd hK h0 h1
    have e9 : m = 9 := by omega
    subst e9
    obtain ⟨K, rfl⟩ : ∃ q, K = q + 3 := ⟨K - 3, by omega⟩
    simp only [varint_Take.l0]
    by_cases c : (9 : Nat) < b.length
    · have hc := hb _ (List.getElem_mem c)
      rw [if_pos (by omega), if_pos (by omega), if_pos (by omega), if_pos (by omega), rd_at b 9 c, List.drop_eq_getElem_cons c]
      rw [tk_cons]
      by_cases g : b[9] > 1
      · rw [decide_eq_true g]
        simp only [varint_Take.j1, varint_Take.j2, if_true]
        rw [if_pos (.inl ⟨trivial, g⟩)]
      · rw [decide_eq_false g]
        simp only [varint_Take.j1]
        rw [if_neg (by simp), if_pos (by omega)]
        unfold isByte at hc
        by_cases z : b[9] = 0
        · simp only [varint_Take.j2, z]
          rw [if_pos (by simp), if_pos (.inr ⟨by omega, trivial⟩)]
        · have e1 : b[9] = 1 := by omega
          simp only [varint_Take.j2, e1]
          have hp9 := p9
          rw [if_neg (by simp), if_pos (by rw [w64 (by omega) (by omega)]; omega), if_pos (by decide), if_neg (by omega), if_pos (by decide), andNot128 1 ⟨by decide, by decide⟩, show IntKind.u64.wrap (1 % 128) = 1 from by decide,
            shl_pow 9 (by omega) 1 (by decide) (by omega), or_low 9 (by omega) acc 1 h0 h1 (by decide) (by omega), w64 (by omega) (by omega)]
    · rw [if_neg (by omega), List.drop_eq_nil_of_le (by omega)]
      simp [tk]
  | succ d ih =>
    intro K m acc h9 hm hd hK h0 h1
    obtain ⟨K, rfl⟩ : ∃ q, K = q + 3 := ⟨K - 3, by omega⟩
    have hp := pow_le9 m (by omega)
    simp only [varint_Take.l0]
    by_cases c : m < b.length
    · have hc := hb _ (List.getElem_mem c)
      unfold isByte at hc
      have hw : wrap64 ((m : Int) + 1) = ((m + 1 : Nat) : Int) := by rw [w64 (by omega) (by omega)]; omega
      rw [if_pos (by omega), if_pos (by omega), if_pos (by omega), if_neg (by omega), rd_at b m c, List.drop_eq_getElem_cons c]
      simp only [varint_Take.j1]
      rw [tk_cons]
      rw [if_neg (by simp)]
      by_cases z : m > 0 ∧ b[m] = 0
      · rw [if_pos (by omega), z.2]
        simp only [varint_Take.j2]
        rw [if_pos (by simp), if_pos (.inr ⟨z.1, trivial⟩)]
      · have hno : ¬ ((m = 9 ∧ b[m] > 1) ∨ (m > 0 ∧ b[m] = 0)) := by omega
        rw [if_neg hno]
        have hj : (if (m : Int) > 0 then varint_Take.j2 (K + 1) acc (m : Int) b[m] b (b.length : Int) (m : Int) (b[m] == 0) else varint_Take.j2 (K + 1) acc (m : Int) b[m] b (b.length : Int) (m : Int) false) = varint_Take.j2 (K + 1) acc (m : Int) b[m] b (b.length : Int) (m : Int) false := by
          by_cases q : (m : Int) > 0
          · rw [if_pos q, show (b[m] == 0) = false from by simp; omega]
          · rw [if_neg q]
        rw [hj]
        have hcm : b[m] % 128 * 128 ^ m ≤ 127 * 128 ^ m := Int.mul_le_mul_of_nonneg_right (by omega) (by omega)
        have hcn : 0 ≤ b[m] % 128 * 128 ^ m := Int.mul_nonneg (by omega) (by omega)
        simp only [varint_Take.j2]
        rw [if_neg (by simp), if_pos (by rw [w64 (by omega) (by omega)]; omega), andNot128 _ hc, u64w (by omega) (by omega), shl_pow m (by omega) _ (by omega) (by omega), or_low m (by omega) acc _ h0 h1 (by omega) (by omega), hw]
        by_cases l : b[m] < 128
        · rw [if_pos l, if_pos l, show b[m] % 128 = b[m] by omega]
          congr 2
        · rw [if_neg l, if_neg l]
          have hq : b[m] % 128 = b[m] - 128 := by omega
          have ep : (128 : Int) ^ (m + 1) = 128 ^ m * 128 := Int.pow_succ _ _
          rw [ih K (m + 1) _ (by omega) (by omega) (by omega) (by omega) (by omega) (by rw [ep]; omega), hq]
    · rw [if_neg (by omega), List.drop_eq_nil_of_le (by omega)]
      simp [tk]
theorem take_eq (b : List Int) (hb : ∀ x ∈ b, isByte x) (hl : b.length ≤ 100000) (K : Nat) (hK : 40 ≤ K) : varint_Take.f K b = some (tk b 0 0) := by
  unfold varint_Take.f
  have := take_loop b hb hl 9 K 0 0 (by omega) (by omega) (by omega) (by omega) (by omega) (by decide)
  simpa using this

/-- numbers' bytes, one behind the other -/
def flat (l : List Int) : List Int := l.flatMap fun x => enc x.toNat
theorem or128 (n : Nat) : Go.bits .or .u8 (((n : Int)) % 256) 128 = ((n % 128 + 128 : Nat) : Int) := by
  have e := Go.u8_or_nat (n % 256) 128 (by omega) (by omega)
  have e1 : ((n : Int)) % 256 = ((n % 256 : Nat) : Int) := by omega
  rw [e1, show (128 : Int) = ((128 : Nat) : Int) from rfl, e]
  have key : ∀ v : Fin 256, (v : Nat) ||| 128 = v % 128 + 128 := by decide +kernel
  have := key ⟨n % 256, by omega⟩
  simp only at this
  rw [this]
  congr 1; omega
theorem put_one (n : Nat) : ∀ (K : Nat) (x5 x11 : List Int) (x12 x13 : Int), x5.length + (enc n).length ≤ 1000000 →
    varint_Put.l1 (K + (enc n).length) x5 (n : Int) x11 x12 x13 = varint_Put.l0 K (x5 ++ enc n) x11 x12 (wrap64 (x13 + 1)) := by
  induction n using Nat.strongRecOn with
  | _ n ih =>
    intro K x5 x11 x12 x13 hl
    by_cases h : n < 128
    · rw [enc_small h] at hl ⊢
      simp only [List.length_singleton] at hl ⊢
      simp only [varint_Put.l1]
      rw [if_neg (by omega), if_pos (by omega), show ((n : Int)) % 256 = n by omega]
    · rw [enc_big h] at hl ⊢
      simp only [List.length_cons] at hl ⊢
      rw [show K + ((enc (n / 128)).length + 1) = K + (enc (n / 128)).length + 1 by omega]
      simp only [varint_Put.l1]
      rw [if_pos (by omega), if_pos (by omega), or128, show (n : Int) / 128 = ((n / 128 : Nat) : Int) by omega, ih (n / 128) (by omega) _ _ _ _ _ (by simp; omega)]
      simp
theorem put_all (l : List Int) (hl : ∀ x ∈ l, isU64 x) (hn : l.length ≤ 1000) (d : Nat) : ∀ (K m : Nat) (x5 : List Int), m ≤ l.length → l.length - m = d → 11 * d + 1 ≤ K → x5.length + 10 * d ≤ 100000 →
    varint_Put.l0 K x5 l (l.length : Int) (m : Int) = some (x5 ++ flat (l.drop m)) := by
  induction d with
  | zero =>
    intro K m x5 h1 h2 hK hx
    obtain ⟨K, rfl⟩ : ∃ q, K = q + 1 := ⟨K - 1, by omega⟩
    simp only [varint_Put.l0]
    rw [if_neg (by omega), List.drop_eq_nil_of_le (by omega)]
    simp [flat]
  | succ d ih =>
    intro K m x5 h1 h2 hK hx
    have c : m < l.length := by omega
    have hu := hl _ (List.getElem_mem c)
    unfold isU64 at hu
    have ht := enc_ten l[m].toNat (by omega)
    obtain ⟨K, rfl⟩ : ∃ q, K = q + (enc l[m].toNat).length + 1 := ⟨K - (enc l[m].toNat).length - 1, by omega⟩
    have hw : wrap64 ((m : Int) + 1) = ((m + 1 : Nat) : Int) := by rw [w64 (by omega) (by omega)]; omega
    simp only [varint_Put.l0]
    rw [if_pos (by omega), if_pos (by omega), if_pos (by omega), rd_at l m c]
    have e : l[m] = ((l[m].toNat : Nat) : Int) := by omega
    have key := put_one l[m].toNat K x5 l (l.length : Int) (m : Int) (by omega)
    rw [← e] at key
    rw [key, hw, ih K (m + 1) _ (by omega) (by omega) (by omega) (by rw [List.length_append]; omega), List.drop_eq_getElem_cons c]
    simp only [flat, List.flatMap_cons, List.append_assoc]
theorem tk_enc (n : Nat) : ∀ (k : Nat) (acc : Int) (more : List Int), (n : Int) * 128 ^ k < 18446744073709551616 → (0 < k → 0 < n) → tk (enc n ++ more) k acc = (acc + n * 128 ^ k, (k : Int) + (enc n).length, 0) := by
  induction n using Nat.strongRecOn with
  | _ n ih =>
    intro k acc more hv hk
    have h9 : k = 9 → n ≤ 1 := by
      intro e; subst e
      have e9 : (128 : Int) ^ 9 = 9223372036854775808 := by decide
      rw [e9] at hv; omega
    by_cases h : n < 128
    · rw [enc_small h]
      simp only [List.singleton_append, List.length_singleton]
      rw [tk_cons]
      rw [if_neg (by omega), if_pos (by omega)]
      rfl
    · rw [enc_big h]
      simp only [List.cons_append, List.length_cons]
      rw [tk_cons]
      rw [if_neg (by omega), if_neg (by omega)]
      have ep : (128 : Int) ^ (k + 1) = 128 ^ k * 128 := Int.pow_succ _ _
      have en : (n : Int) * 128 ^ k = ((n % 128 : Nat) : Int) * 128 ^ k + ((n / 128 : Nat) : Int) * 128 ^ (k + 1) := by
        rw [ep, Int.mul_comm (128 ^ k) 128, ← Int.mul_assoc, ← Int.add_mul]
        congr 1; omega
      have hn : 0 ≤ ((n % 128 : Nat) : Int) * 128 ^ k := Int.mul_nonneg (by omega) (Int.pow_nonneg (by decide))
      rw [ih (n / 128) (by omega) (k + 1) _ more (by omega) (by omega), show (((n % 128 + 128 : Nat) : Int) - 128) = ((n % 128 : Nat) : Int) by omega]
      simp only [Prod.mk.injEq, and_true]
      refine ⟨by omega, by push_cast; omega⟩
theorem take_enc (n : Int) (h : isU64 n) (more : List Int) : tk (enc n.toNat ++ more) 0 0 = (n, ((enc n.toNat).length : Int), 0) := by
  unfold isU64 at h
  rw [tk_enc n.toNat 0 0 more (by simp; omega) (by omega)]
  simp; omega
/-- more bytes behind change nothing, if they did not end -/
theorem xor_ones (a : Nat) (h : a < 18446744073709551616) : a ^^^ 18446744073709551615 = 18446744073709551615 - a := by
  have e := BitVec.toNat_not (x := BitVec.ofNat 64 a)
  rw [BitVec.not_def, BitVec.toNat_xor, BitVec.toNat_allOnes, BitVec.toNat_ofNat, Nat.mod_eq_of_lt (by simpa using h)] at e
  rw [Nat.xor_comm]
  simpa using e
theorem zig_eq (n : Int) (h : -9223372036854775808 ≤ n ∧ n ≤ 9223372036854775807) : varint_Zig.f n = some (if 0 ≤ n then 2 * n else -2 * n - 1) := by
  unfold varint_Zig.f
  congr 1
  have hx : IntKind.u64.wrap (wrap64 (n * 2)) = (2 * n) % 18446744073709551616 := by
    rw [IntKind.wrap_u64]; unfold wrap64; omega
  have hx0 : 0 ≤ (2 * n) % 18446744073709551616 ∧ (2 * n) % 18446744073709551616 < 18446744073709551616 := by omega
  rw [hx]
  obtain ⟨a, ha⟩ := Int.eq_ofNat_of_zero_le hx0.1
  rw [ha] at hx0 ⊢
  by_cases c : 0 ≤ n
  · rw [if_pos c, show n / 9223372036854775808 = 0 by omega, show IntKind.u64.wrap 0 = ((0 : Nat) : Int) from by decide, Go.u64_xor_nat a 0 (by omega) (by omega), Nat.xor_zero]
    omega
  · rw [if_neg c, show n / 9223372036854775808 = -1 by omega, show IntKind.u64.wrap (-1) = ((18446744073709551615 : Nat) : Int) from by decide, Go.u64_xor_nat a 18446744073709551615 (by omega) (by omega), xor_ones a (by omega)]
    omega
theorem xor_i64 (x y : Int) (a b : Nat) (ha : a < 18446744073709551616) (hb : b < 18446744073709551616) (hx : BitVec.ofInt 64 x = BitVec.ofNat 64 a) (hy : BitVec.ofInt 64 y = BitVec.ofNat 64 b) : Go.bits .xor .i64 x y = IntKind.i64.wrap ((a ^^^ b : Nat) : Int) := by
  unfold Go.bits
  have e : IntKind.i64.bits = 64 := rfl
  rw [e, hx, hy]
  simp only []
  rw [BitVec.toNat_xor, BitVec.toNat_ofNat, BitVec.toNat_ofNat, Nat.mod_eq_of_lt (by simpa using ha), Nat.mod_eq_of_lt (by simpa using hb)]
theorem zag_eq (u : Int) (h : isU64 u) : varint_Zag.f u = some (if u % 2 = 0 then u / 2 else -(u / 2) - 1) := by
  unfold isU64 at h
  unfold varint_Zag.f
  congr 1
  obtain ⟨n, rfl⟩ := Int.eq_ofNat_of_zero_le h.1
  have e := Go.u64_and_nat n 1 (by omega) (by omega)
  rw [Go.nat_mask1] at e
  rw [show (1 : Int) = ((1 : Nat) : Int) from rfl, e, w64 (n := (n : Int) / 2) (by omega) (by omega)]
  have hx : BitVec.ofInt 64 ((n : Int) / 2) = BitVec.ofNat 64 (n / 2) := by rw [show (n : Int) / 2 = ((n / 2 : Nat) : Int) by omega, BitVec.ofInt_natCast]
  rcases Nat.mod_two_eq_zero_or_one n with c | c
  · rw [c, show wrap64 (-wrap64 ((0 : Nat) : Int)) = 0 from by unfold wrap64; omega, xor_i64 _ 0 (n / 2) 0 (by omega) (by omega) hx rfl, Nat.xor_zero, if_pos (by omega)]
    rw [IntKind.wrap_i64]; omega
  · rw [c, show wrap64 (-wrap64 ((1 : Nat) : Int)) = -1 from by unfold wrap64; omega, xor_i64 _ (-1) (n / 2) 18446744073709551615 (by omega) (by omega) hx rfl, xor_ones (n / 2) (by omega), if_neg (by omega)]
    rw [IntKind.wrap_i64]; omega
theorem clone_f (l : List Int) (h : l.length < 140737488355328) : slices_Clone_byte_byte.f l = some l := by
  unfold slices_Clone_byte_byte.f
  simp only [Option.bind_some, List.length_nil, List.nil_append]
  rw [if_pos (by omega)]
theorem take_nil (k : Nat) : varint_Take.f (k + 1) [] = some (0, 0, 2) := rfl
theorem small_true : decklelaw04_small.f 400 = some true := by kernel_rfl

def zig (z : Int) : Int := if 0 ≤ z then 2 * z else -2 * z - 1
/-- The bytes of one number: with a sign, and without one, if it is none below 0. -/
def fl (z : Int) : List Int := enc (zig z).toNat ++ (if z ≥ 0 then enc z.toNat else [])
def FL (l : List Int) : List Int := l.flatMap fl
def isInt (z : Int) : Prop := -9223372036854775808 ≤ z ∧ z ≤ 9223372036854775807
theorem zig_u64 {z : Int} (h : isInt z) : isU64 (zig z) := by unfold isInt at h; unfold zig isU64; split <;> omega
theorem fl_bytes (z : Int) : ∀ x ∈ fl z, isByte x := fun x hx => by
  unfold fl at hx
  rcases List.mem_append.1 hx with hx | hx
  · exact enc_bytes _ x hx
  · split at hx
    · exact enc_bytes _ x hx
    · simp at hx
theorem FL_bytes (l : List Int) : ∀ x ∈ FL l, isByte x := fun x hx => by
  unfold FL at hx
  obtain ⟨z, _, hz⟩ := List.mem_flatMap.1 hx
  exact fl_bytes z x hz
theorem fl_len {z : Int} (h : isInt z) : (fl z).length ≤ 20 := by
  have h1 := zig_u64 h
  unfold isU64 at h1
  unfold isInt at h
  have e1 := enc_ten (zig z).toNat (by omega)
  unfold fl
  rw [List.length_append]
  split
  · have e2 := enc_ten z.toNat (by omega)
    omega
  · simp; omega
theorem FL_cons (z : Int) (l : List Int) : FL (z :: l) = fl z ++ FL l := by simp [FL]
theorem FL_len : ∀ (l : List Int), (∀ x ∈ l, isInt x) → (FL l).length ≤ 20 * l.length
  | [], _ => by simp [FL]
  | z :: l, h => by
    have a := FL_len l fun x hx => h x (by simp [hx])
    have b := fl_len (h z (by simp))
    rw [FL_cons, List.length_append, List.length_cons]; omega
theorem put_eq (K : Nat) (hK : 40 ≤ K) (B : List Int) (hB : B.length ≤ 5000) (u : Int) (hu : isU64 u) : varint_Put.f K B [u] = some (B ++ enc u.toNat) := by
  unfold varint_Put.f
  rw [if_pos (by simp), clone_f B (by omega)]
  have h := put_all [u] (by simpa using hu) (by simp) 1 K 0 B (by simp) (by simp) (by omega) (by omega)
  simp only [Option.bind_some]
  have e : flat ([u].drop 0) = enc u.toNat := by simp [flat]
  rw [e] at h
  exact h
theorem take_ok (a : Int) (ha : 0 ≤ a ∧ a ≤ 100000) (h t : List Int) (hl : (h ++ t).length ≤ 5000) : cursor_Cursor_Take.f a 0 0 0 (h ++ t) (h.length : Int) = some (h, a + h.length, 0, 0, 0, t) := by
  rw [List.length_append] at hl
  unfold cursor_Cursor_Take.f
  rw [if_neg (by rw [List.length_append]; omega), Int.toNat_natCast, List.take_left, List.drop_left, clone_f h (by omega), w64 (n := a + h.length) (by omega) (by omega)]
  rfl
theorem number_ok (K : Nat) (hK : 50 ≤ K) (a : Int) (ha : 0 ≤ a ∧ a ≤ 100000) (n m : Int) (hn : isU64 n) (hm : n ≤ m) (t : List Int) (ht : ∀ x ∈ t, isByte x) (hl : (enc n.toNat ++ t).length ≤ 5000) :
    cursor_Cursor_number.f K a 0 0 0 (enc n.toNat ++ t) m = some (n, a + (enc n.toNat).length, 0, 0, 0, t) := by
  obtain ⟨K, rfl⟩ : ∃ q, K = q + 2 := ⟨K - 2, by omega⟩
  unfold cursor_Cursor_number.f
  rw [take_eq _ (fun x hx => by
    rcases List.mem_append.1 hx with hx | hx
    · exact enc_bytes _ x hx
    · exact ht x hx) (by omega) (K + 2) (by omega), take_enc n hn t]
  simp only [Option.bind_some]
  rw [if_pos trivial, cursor_Cursor_number.j0, decide_eq_false (by omega), if_neg (by decide), cursor_Cursor_number.j1, if_pos rfl, take_ok a ha _ t hl]
  rfl
theorem int_ok (K : Nat) (hK : 50 ≤ K) (a : Int) (ha : 0 ≤ a ∧ a ≤ 100000) (z : Int) (hz : isInt z) (t : List Int) (ht : ∀ x ∈ t, isByte x) (hl : (enc (zig z).toNat ++ t).length ≤ 5000) :
    cursor_Cursor_Int.f K a 0 0 0 (enc (zig z).toNat ++ t) = some (z, a + (enc (zig z).toNat).length, 0, 0, 0, t) := by
  have hu := zig_u64 hz
  unfold cursor_Cursor_Int.f
  rw [number_ok K hK a ha (zig z) 18446744073709551615 hu hu.2 t ht hl]
  simp only [Option.bind_some]
  rw [zag_eq (zig z) hu]
  have e : (if zig z % 2 = 0 then zig z / 2 else -(zig z / 2) - 1) = z := by
    unfold zig
    by_cases c : 0 ≤ z
    · rw [if_pos c, if_pos (by omega)]; omega
    · rw [if_neg c, if_neg (by omega)]; omega
  rw [e]
  rfl
theorem num_ok (K : Nat) (hK : 50 ≤ K) (a : Int) (ha : 0 ≤ a ∧ a ≤ 100000) (z : Int) (hz : isInt z) (h0 : z ≥ 0) (t : List Int) (ht : ∀ x ∈ t, isByte x) (hl : (enc z.toNat ++ t).length ≤ 5000) :
    cursor_Cursor_Num.f K a 0 0 0 (enc z.toNat ++ t) z = some (z, a + (enc z.toNat).length, 0, 0, 0, t) := by
  unfold isInt at hz
  unfold cursor_Cursor_Num.f
  rw [if_pos h0, u64w (n := z) (by omega) (by omega), number_ok K hK a ha z z (by unfold isU64; omega) (Int.le_refl _) t ht hl]
  simp only [Option.bind_some]
  rw [w64 (n := z) (by omega) (by omega)]
theorem read_loop (l more : List Int) (hi : ∀ x ∈ l, isInt x) (hl : l.length ≤ 50) (hm : ∀ x ∈ more, isByte x) (hml : more.length ≤ 200) (B : List Int) (hB : B.length ≤ 1000) (d : Nat) : ∀ (K i : Nat) (a : Int), i ≤ l.length → l.length - i = d → d + 100 ≤ K → 0 ≤ a → a + ((FL (l.drop i)).length : Int) = 7 + (B.length : Int) →
    decklelaw04_CursorNumbers.l1 K l more true B (i : Int) a 0 0 0 (FL (l.drop i) ++ more) = some true := by
  induction d with
  | zero =>
    intro K i a h1 h2 h3 h4 h5
    obtain ⟨K, rfl⟩ : ∃ q, K = q + 1 := ⟨K - 1, by omega⟩
    have c : ¬ (i : Int) < l.length := by omega
    have e0 : FL (l.drop i) = [] := by rw [List.drop_eq_nil_of_le (by omega)]; rfl
    rw [e0] at h5
    rw [e0, List.nil_append, decklelaw04_CursorNumbers.l1, if_neg c]
    have ht := take_ok a ⟨h4, by simp at h5; omega⟩ more [] (by simp; omega)
    rw [List.append_nil] at ht
    simp only [cursor_place_At.f, cursor_Cursor_Left.f, Option.bind_some]
    rw [ht]
    have ea : a = wrap64 (7 + (B.length : Int)) := by rw [w64 (by omega) (by omega)]; simp at h5; omega
    simp only [Option.bind_some, cursor_Cursor_End.f, if_true, List.length_nil]
    rw [if_neg (by decide)]
    simp only [Option.bind_some]
    rw [if_pos ea]
    rfl
  | succ d ih =>
    intro K i a h1 h2 h3 h4 h5
    obtain ⟨K, rfl⟩ : ∃ q, K = q + 1 := ⟨K - 1, by omega⟩
    have c : (i : Int) < l.length := by omega
    have cn : i < l.length := by omega
    have c0 : (0 : Int) ≤ i := by omega
    have hz := hi _ (List.getElem_mem cn)
    have hw : wrap64 ((i : Int) + 1) = ((i + 1 : Nat) : Int) := by rw [w64 (by omega) (by omega)]; try omega
    have g1 : i + 1 ≤ l.length := by omega
    have g2 : l.length - (i + 1) = d := by omega
    have g3 : d + 100 ≤ K := by omega
    have hsub : ∀ x ∈ l.drop (i + 1), isInt x := fun x hx => hi x (List.mem_of_mem_drop hx)
    have hlen := FL_len (l.drop (i + 1)) hsub
    rw [List.length_drop] at hlen
    have ed : FL (l.drop i) = fl l[i] ++ FL (l.drop (i + 1)) := by rw [List.drop_eq_getElem_cons cn, FL_cons]
    have hf := fl_len hz
    have hrest : ∀ x ∈ FL (l.drop (i + 1)) ++ more, isByte x := fun x hx => by
      rcases List.mem_append.1 hx with hx | hx
      · exact FL_bytes _ x hx
      · exact hm x hx
    rw [ed, List.length_append] at h5
    rw [ed, decklelaw04_CursorNumbers.l1, if_pos c]
    by_cases p : l[i] ≥ 0
    · have e1 : fl l[i] = enc (zig l[i]).toNat ++ enc (l[i]).toNat := by unfold fl; rw [if_pos p]
      rw [e1, List.length_append] at hf
      rw [e1, List.length_append] at h5
      rw [e1, List.append_assoc, List.append_assoc, int_ok K (by omega) a ⟨h4, by omega⟩ l[i] hz (enc (l[i]).toNat ++ (FL (l.drop (i + 1)) ++ more)) (fun x hx => by
        rcases List.mem_append.1 hx with hx | hx
        · exact enc_bytes _ x hx
        · exact hrest x hx) (by simp only [List.length_append]; omega)]
      simp only [Option.bind_some]
      rw [if_pos c0, rd_at l i cn, if_pos p, num_ok K (by omega) _ ⟨by omega, by omega⟩ l[i] hz p _ hrest (by simp only [List.length_append]; omega)]
      simp only [Option.bind_some]
      rw [if_pos trivial, if_pos trivial, hw]
      exact ih K (i + 1) _ g1 g2 g3 (by omega) (by push_cast at h5 ⊢; omega)
    · have e1 : fl l[i] = enc (zig l[i]).toNat := by unfold fl; rw [if_neg p, List.append_nil]
      rw [e1] at hf
      rw [e1] at h5
      rw [e1, List.append_assoc, int_ok K (by omega) a ⟨h4, by omega⟩ l[i] hz _ hrest (by simp only [List.length_append]; omega)]
      simp only [Option.bind_some]
      rw [if_pos c0, rd_at l i cn, if_neg p, if_pos trivial, if_pos rfl, hw]
      exact ih K (i + 1) _ g1 g2 g3 (by omega) (by push_cast at h5 ⊢; omega)
theorem lay_loop (l more : List Int) (hi : ∀ x ∈ l, isInt x) (hl : l.length ≤ 50) (hm : ∀ x ∈ more, isByte x) (hml : more.length ≤ 200) (d : Nat) : ∀ (K i : Nat) (B : List Int), i ≤ l.length → l.length - i = d → d + 200 ≤ K → B.length ≤ 20 * i → B ++ FL (l.drop i) = FL l →
    decklelaw04_CursorNumbers.l0 K l more true B (i : Int) = some true := by
  induction d with
  | zero =>
    intro K i B h1 h2 h3 h4 h5
    obtain ⟨K, rfl⟩ : ∃ q, K = q + 1 := ⟨K - 1, by omega⟩
    have c : ¬ (i : Int) < l.length := by omega
    have e0 : FL (l.drop i) = [] := by rw [List.drop_eq_nil_of_le (by omega)]; rfl
    rw [e0, List.append_nil] at h5
    rw [decklelaw04_CursorNumbers.l0, if_neg c]
    have o : cursor_Open.f (B ++ more) 7 = some (7, 0, 0, 0, B ++ more) := by
      unfold cursor_Open.f
      rw [clone_f _ (by rw [List.length_append]; omega)]
      rfl
    simp only [Option.bind_some, List.length_nil, List.nil_append]
    rw [if_pos (by omega), if_pos (by omega), o]
    simp only [Option.bind_some]
    have := read_loop l more hi hl hm hml B (by omega) l.length K 0 7 (Nat.zero_le _) rfl (by omega) (by omega) (by rw [List.drop_zero, ← h5])
    rw [List.drop_zero, ← h5] at this
    exact this
  | succ d ih =>
    intro K i B h1 h2 h3 h4 h5
    obtain ⟨K, rfl⟩ : ∃ q, K = q + 1 := ⟨K - 1, by omega⟩
    have c : (i : Int) < l.length := by omega
    have cn : i < l.length := by omega
    have c0 : (0 : Int) ≤ i := by omega
    have hz := hi _ (List.getElem_mem cn)
    have hu := zig_u64 hz
    have hw : wrap64 ((i : Int) + 1) = ((i + 1 : Nat) : Int) := by rw [w64 (by omega) (by omega)]; try omega
    have g1 : i + 1 ≤ l.length := by omega
    have g2 : l.length - (i + 1) = d := by omega
    have g3 : d + 200 ≤ K := by omega
    have ed : FL (l.drop i) = fl l[i] ++ FL (l.drop (i + 1)) := by rw [List.drop_eq_getElem_cons cn, FL_cons]
    have hf := fl_len hz
    have hzig : varint_Zig.f l[i] = some (zig l[i]) := zig_eq l[i] hz
    rw [decklelaw04_CursorNumbers.l0, if_pos c, if_pos c0, rd_at l i cn, hzig]
    simp only [Option.bind_some]
    have he := enc_ten (zig l[i]).toNat (by unfold isU64 at hu; omega)
    rw [put_eq K (by omega) B (by omega) (zig l[i]) hu]
    simp only [Option.bind_some]
    by_cases p : l[i] ≥ 0
    · have e1 : fl l[i] = enc (zig l[i]).toNat ++ enc (l[i]).toNat := by unfold fl; rw [if_pos p]
      unfold isInt at hz
      rw [if_pos p, u64w (n := l[i]) (by omega) (by omega), put_eq K (by omega) _ (by rw [List.length_append]; omega) l[i] (by unfold isU64; omega)]
      simp only [Option.bind_some]
      rw [hw]
      refine ih K (i + 1) _ g1 g2 g3 (by rw [e1] at hf; simp only [List.length_append] at hf ⊢; omega) ?_
      rw [← h5, ed, e1]
      simp only [List.append_assoc]
    · have e1 : fl l[i] = enc (zig l[i]).toNat := by unfold fl; rw [if_neg p, List.append_nil]
      rw [if_neg p, hw]
      refine ih K (i + 1) _ g1 g2 g3 (by simp only [List.length_append]; omega) ?_
      rw [← h5, ed, e1]
      simp only [List.append_assoc]
theorem CursorNumbersK (K : Nat) (hK : 301 ≤ K) (hs : decklelaw04_small.f K = some true) (l more : List Int) (hi : ∀ x ∈ l, isInt x) (hm : ∀ x ∈ more, isByte x) : decklelaw04_CursorNumbers.f K l more = some true := by
  obtain ⟨K, rfl⟩ : ∃ q, K = q + 1 := ⟨K - 1, by omega⟩
  unfold decklelaw04_CursorNumbers.f
  rw [hs]
  simp only [Option.bind_some]
  by_cases c1 : (l.length : Int) > 50
  · rw [if_pos c1, decklelaw04_CursorNumbers.j0, if_pos rfl]
  rw [if_neg c1, decklelaw04_CursorNumbers.j0]
  by_cases c2 : (more.length : Int) > 200
  · rw [decide_eq_true c2, if_pos rfl]
  rw [decide_eq_false c2, if_neg (by decide)]
  exact lay_loop l more hi (by omega) hm (by omega) l.length K 0 [] (Nat.zero_le _) rfl (by omega) (by simp) (by simp)
/-- Numbers that were laid are read as they were, one behind the other, and no more of them. -/
theorem CursorNumbers : decklelaw04_CursorNumbers.Pure := fun l more _ _ h3 _ _ h6 => ⟨400, CursorNumbersK 400 (by decide) small_true l more (fun x hx => int_of_wf (h3 x hx)) (byte_of_wf more h6)⟩
end Go.Proofs.Ytgegbiknohjpgaa.Pure
