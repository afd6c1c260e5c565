import Derived.Test.YtgegbiknohjpgaaHCursorPlacesx5
import Derived.KernelRfl
namespace Go.Proofs.Ytgegbiknohjpgaa.Pure
open Go.RowKit Go.Proofs.Ytgegbiknohjpgaa.HCursorPlaces Go.Proofs.YtgegbiknohjpgaaW.PrintWords Go.Proofs.YtgegbiknohjpgaaW.PrintLast Go.Proofs.YtgegbiknohjpgaaW.PrintMore
set_option linter.unusedVariables false
set_option linter.unusedSimpArgs false

/-! plain facts on numbers as bytes -/
theorem w64 {n : Int} (h1 : -9223372036854775808 ≤ n) (h2 : n ≤ 9223372036854775807) : wrap64 n = n := by unfold wrap64; omega
theorem u64w {n : Int} (h1 : 0 ≤ n) (h2 : n < 18446744073709551616) : IntKind.u64.wrap n = n := by rw [IntKind.wrap_u64]; omega
def isByte (x : Int) : Prop := 0 ≤ x ∧ x ≤ 255
def isU64 (x : Int) : Prop := 0 ≤ x ∧ x ≤ 18446744073709551615
theorem byte_of_wf (b : List Int) (h : ∀ x ∈ b, (Lit.int .u8 x).wf = true) : ∀ x ∈ b, isByte x := fun x hx => by
  have := h x hx
  have e0 : IntKind.u8.min = 0 := by decide
  have e1 : IntKind.u8.max = 255 := by decide
  simp only [Lit.wf, Bool.and_eq_true, decide_eq_true_eq, e0, e1] at this
  exact this
theorem u64_of_wf {x : Int} (h : (Lit.int .u64 x).wf = true) : isU64 x := by
  have e0 : IntKind.u64.min = 0 := by decide
  have e1 : IntKind.u64.max = 18446744073709551615 := by decide
  simp only [Lit.wf, Bool.and_eq_true, decide_eq_true_eq, e0, e1] at h
  exact h
theorem int_of_wf {x : Int} (h : (Lit.int .i64 x).wf = true) : -9223372036854775808 ≤ x ∧ x ≤ 9223372036854775807 := by
  have e0 : IntKind.i64.min = -9223372036854775808 := by decide
  have e1 : IntKind.i64.max = 9223372036854775807 := by decide
  simp only [Lit.wf, Bool.and_eq_true, decide_eq_true_eq, e0, e1] at h
  exact h
theorem rd_at (b : List Int) (m : Nat) (h : m < b.length) : rd b (m : Int) = b[m] := by
  unfold rd
  rw [List.getD_eq_getElem?_getD, Int.toNat_natCast, List.getElem?_eq_getElem h]; rfl

/-- a number's bytes -/
def enc (n : Nat) : List Int := if n < 128 then [(n : Int)] else ((n % 128 + 128 : Nat) : Int) :: enc (n / 128)
termination_by n
decreasing_by omega
theorem enc_small {n : Nat} (h : n < 128) : enc n = [(n : Int)] := by rw [enc, if_pos h]
theorem enc_big {n : Nat} (h : ¬ n < 128) : enc n = ((n % 128 + 128 : Nat) : Int) :: enc (n / 128) := by rw [enc, if_neg h]
theorem enc_pos (n : Nat) : 1 ≤ (enc n).length := by
  by_cases h : n < 128
  · rw [enc_small h]; simp
  · rw [enc_big h]; simp
theorem enc_bytes (n : Nat) : ∀ x ∈ enc n, isByte x := by
  induction n using Nat.strongRecOn with
  | _ n ih =>
    by_cases h : n < 128
    · rw [enc_small h]
      intro x hx
      rw [List.mem_singleton.1 hx]
      exact ⟨by omega, by omega⟩
    · rw [enc_big h]
      intro x hx
      rcases List.mem_cons.1 hx with rfl | hx
      · exact ⟨by omega, by omega⟩
      · exact ih (n / 128) (by omega) x hx
theorem enc_len (k : Nat) : ∀ n, n < 128 ^ (k + 1) → (enc n).length ≤ k + 1 := by
  induction k with
  | zero => intro n h; rw [enc_small (by simpa using h)]; simp
  | succ k ih =>
    intro n h
    by_cases c : n < 128
    · rw [enc_small c]; simp
    · rw [enc_big c, List.length_cons]
      have := ih (n / 128) (Nat.div_lt_of_lt_mul (by rw [Nat.pow_succ] at h; omega))
      omega
theorem enc_ten (n : Nat) (h : n < 18446744073709551616) : (enc n).length ≤ 10 := enc_len 9 n (Nat.lt_of_lt_of_le h (by decide))

/-- what is read: of the bytes that are left, behind k of them -/
def tk : List Int → Nat → Int → Int × Int × Int
  | [], _, _ => (0, 0, 2)
  | c :: r, k, acc => if (k = 9 ∧ c > 1) ∨ (k > 0 ∧ c = 0) then (0, 0, 3) else if c < 128 then (acc + c * 128 ^ k, (k : Int) + 1, 0) else tk r (k + 1) (acc + (c - 128) * 128 ^ k)

theorem tk_nil (k : Nat) (acc : Int) : tk [] k acc = (0, 0, 2) := rfl
theorem tk_cons (c : Int) (r : List Int) (k : Nat) (acc : Int) : tk (c :: r) k acc = if (k = 9 ∧ c > 1) ∨ (k > 0 ∧ c = 0) then (0, 0, 3) else if c < 128 then (acc + c * 128 ^ k, (k : Int) + 1, 0) else tk r (k + 1) (acc + (c - 128) * 128 ^ k) := rfl
theorem p9 : (128 : Int) ^ 9 = 9223372036854775808 := by decide

theorem pow_le9 (k : Nat) (h : k ≤ 8) : (128 : Int) ^ k * 128 ≤ 9223372036854775808 ∧ 1 ≤ (128 : Int) ^ k := by
  match k, h with
  | 0, _ => decide
  | 1, _ => decide
  | 2, _ => decide
  | 3, _ => decide
  | 4, _ => decide
  | 5, _ => decide
  | 6, _ => decide
  | 7, _ => decide
  | 8, _ => decide
theorem shl_pow (k : Nat) (h : k ≤ 9) (c : Int) (h0 : 0 ≤ c) (h1 : c * 128 ^ k < 18446744073709551616) : shl .u64 c (wrap64 (7 * (k : Int))) = c * 128 ^ k := by
  rw [w64 (by omega) (by omega)]
  unfold shl
  rw [show (7 * (k : Int)).toNat = 7 * k by omega, Nat.min_eq_left (by show 7 * k ≤ 64; omega)]
  have e : (2 : Int) ^ (7 * k) = 128 ^ k := by rw [Int.pow_mul]; rfl
  rw [e]
  exact u64w (Int.mul_nonneg h0 (Int.pow_nonneg (by decide))) h1
theorem andNot128 (c : Int) (h : isByte c) : Go.bits .andNot .u8 c 128 = c % 128 := by
  obtain ⟨n, rfl⟩ := Int.eq_ofNat_of_zero_le h.1
  have h2 := h.2
  have e := Go.u8_andNot_nat n 128 (by omega) (by omega)
  rw [show (255 - 128 : Nat) = 127 from rfl, Go.nat_mask7] at e
  rw [show (128 : Int) = ((128 : Nat) : Int) from rfl, e]; omega
theorem or_low (k : Nat) (h : k ≤ 9) (acc c : Int) (h0 : 0 ≤ acc) (h1 : acc < 128 ^ k) (h2 : 0 ≤ c) (h3 : acc + c * 128 ^ k < 18446744073709551616) : Go.bits .or .u64 acc (c * 128 ^ k) = acc + c * 128 ^ k := by
  obtain ⟨a, rfl⟩ := Int.eq_ofNat_of_zero_le h0
  obtain ⟨m, rfl⟩ := Int.eq_ofNat_of_zero_le h2
  have e1 : ((m : Int) * 128 ^ k) = ((m * 128 ^ k : Nat) : Int) := by push_cast; rfl
  rw [e1] at h3 ⊢
  have h4 : a < 128 ^ k := by exact_mod_cast h1
  have e := Go.u64_or_nat a (m * 128 ^ k) (by omega) (by omega)
  have e2 : (128 : Nat) ^ k = 2 ^ (7 * k) := by rw [Nat.pow_mul]
  rw [e, Nat.or_comm, Go.nat_join (7 * k) (m * 128 ^ k) a (by rw [e2]; exact Nat.mul_mod_left _ _) (by rw [← e2]; exact h4)]
  push_cast; omega

theorem take_loop (b : List Int) (hb : ∀ x ∈ b, isByte x) (hl : b.length ≤ 100000) (d : Nat) : ∀ (K m : Nat) (acc : Int), m ≤ 9 → m ≤ b.length → 9 - m = d → 3 * d + 4 ≤ K → 0 ≤ acc → acc < 128 ^ m →
    varint_Take.l0 K acc b (b.length : Int) (m : Int) = some (tk (b.drop m) m acc) := by
  induction d with
  | zero =>
    intro K m acc h9 hm hd hK h0 h1
    have e9 : m = 9 := by omega
    subst e9
    obtain ⟨K, rfl⟩ : ∃ q, K = q + 3 := ⟨K - 3, by omega⟩
    simp only [varint_Take.l0]
    by_cases c : (9 : Nat) < b.length
    · have hc := hb _ (List.getElem_mem c)
      rw [if_pos (by omega), if_pos (by omega), if_pos (by omega), if_pos (by omega), rd_at b 9 c, List.drop_eq_getElem_cons c]
      rw [tk_cons]
      by_cases g : b[9] > 1
      · rw [decide_eq_true g]
        simp only [varint_Take.j1, varint_Take.j2, if_true]
        rw [if_pos (.inl ⟨trivial, g⟩)]
      · rw [decide_eq_false g]
        simp only [varint_Take.j1]
        rw [if_neg (by simp), if_pos (by omega)]
        unfold isByte at hc
        by_cases z : b[9] = 0
        · simp only [varint_Take.j2, z]
          rw [if_pos (by simp), if_pos (.inr ⟨by omega, trivial⟩)]
        · have e1 : b[9] = 1 := by omega
          simp only [varint_Take.j2, e1]
          have hp9 := p9
          rw [if_neg (by simp), if_pos (by rw [w64 (by omega) (by omega)]; omega), if_pos (by decide), if_neg (by omega), if_pos (by decide), andNot128 1 ⟨by decide, by decide⟩, show IntKind.u64.wrap (1 % 128) = 1 from by decide,
            shl_pow 9 (by omega) 1 (by decide) (by omega), or_low 9 (by omega) acc 1 h0 h1 (by decide) (by omega), w64 (by omega) (by omega)]
    · rw [if_neg (by omega), List.drop_eq_nil_of_le (by omega)]
      simp [tk]
  | succ d ih =>
    intro K m acc h9 hm hd hK h0 h1
    obtain ⟨K, rfl⟩ : ∃ q, K = q + 3 := ⟨K - 3, by omega⟩
    have hp := pow_le9 m (by omega)
    simp only [varint_Take.l0]
    by_cases c : m < b.length
    · have hc := hb _ (List.getElem_mem c)
      unfold isByte at hc
      have hw : wrap64 ((m : Int) + 1) = ((m + 1 : Nat) : Int) := by rw [w64 (by omega) (by omega)]; omega
      rw [if_pos (by omega), if_pos (by omega), if_pos (by omega), if_neg (by omega), rd_at b m c, List.drop_eq_getElem_cons c]
      simp only [varint_Take.j1]
      rw [tk_cons]
      rw [if_neg (by simp)]
      by_cases z : m > 0 ∧ b[m] = 0
      · rw [if_pos (by omega), z.2]
        simp only [varint_Take.j2]
        rw [if_pos (by simp), if_pos (.inr ⟨z.1, trivial⟩)]
      · have hno : ¬ ((m = 9 ∧ b[m] > 1) ∨ (m > 0 ∧ b[m] = 0)) := by omega
        rw [if_neg hno]
        have hj : (if (m : Int) > 0 then varint_Take.j2 (K + 1) acc (m : Int) b[m] b (b.length : Int) (m : Int) (b[m] == 0) else varint_Take.j2 (K + 1) acc (m : Int) b[m] b (b.length : Int) (m : Int) false) = varint_Take.j2 (K + 1) acc (m : Int) b[m] b (b.length : Int) (m : Int) false := by
          by_cases q : (m : Int) > 0
          · rw [if_pos q, show (b[m] == 0) = false from by simp; omega]
          · rw [if_neg q]
        rw [hj]
        have hcm : b[m] % 128 * 128 ^ m ≤ 127 * 128 ^ m := Int.mul_le_mul_of_nonneg_right (by omega) (by omega)
        have hcn : 0 ≤ b[m] % 128 * 128 ^ m := Int.mul_nonneg (by omega) (by omega)
        simp only [varint_Take.j2]
        rw [if_neg (by simp), if_pos (by rw [w64 (by omega) (by omega)]; omega), andNot128 _ hc, u64w (by omega) (by omega), shl_pow m (by omega) _ (by omega) (by omega), or_low m (by omega) acc _ h0 h1 (by omega) (by omega), hw]
        by_cases l : b[m] < 128
        · rw [if_pos l, if_pos l, show b[m] % 128 = b[m] by omega]
          congr 2
        · rw [if_neg l, if_neg l]
          have hq : b[m] % 128 = b[m] - 128 := by omega
          have ep : (128 : Int) ^ (m + 1) = 128 ^ m * 128 := Int.pow_succ _ _
          rw [ih K (m + 1) _ (by omega) (by omega) (by omega) (by omega) (by omega) (by rw [ep]; omega), hq]
    · rw [if_neg (by omega), List.drop_eq_nil_of_le (by omega)]
      simp [tk]
theorem take_eq (b : List Int) (hb : ∀ x ∈ b, isByte x) (hl : b.length ≤ 100000) (K : Nat) (hK : 40 ≤ K) : varint_Take.f K b = some (tk b 0 0) := by
  unfold varint_Take.f
  have := take_loop b hb hl 9 K 0 0 (by omega) (by omega) (by omega) (by omega) (by omega) (by decide)
  simpa using this

theorem tk_err (b : List Int) : ∀ (k : Nat) (acc : Int), (tk b k acc).2.2 = 0 ∨ tk b k acc = (0, 0, 2) ∨ tk b k acc = (0, 0, 3) := by
  induction b with
  | nil => intro k acc; exact .inr (.inl rfl)
  | cons c r ih =>
    intro k acc
    rw [tk_cons]
    split
    · exact .inr (.inr rfl)
    · split
      · exact .inl rfl
      · exact ih _ _
/-- 2^64 is a multiple of 128^(k+1) -/
theorem le8 {P : Nat → Prop} (h0 : P 0) (h1 : P 1) (h2 : P 2) (h3 : P 3) (h4 : P 4) (h5 : P 5) (h6 : P 6) (h7 : P 7) (h8 : P 8) (k : Nat) (hk : k ≤ 8) : P k := by
  match k, hk with
  | 0, _ => exact h0
  | 1, _ => exact h1
  | 2, _ => exact h2
  | 3, _ => exact h3
  | 4, _ => exact h4
  | 5, _ => exact h5
  | 6, _ => exact h6
  | 7, _ => exact h7
  | 8, _ => exact h8
theorem mult_lt (v : Nat) (k : Nat) (hk : k ≤ 8) (h : (v : Int) * (128 ^ k * 128) < 18446744073709551616) : (v : Int) * (128 ^ k * 128) + 128 ^ k * 128 ≤ 18446744073709551616 := by
  revert h
  refine le8 (P := fun k => (v : Int) * (128 ^ k * 128) < 18446744073709551616 → (v : Int) * (128 ^ k * 128) + 128 ^ k * 128 ≤ 18446744073709551616) ?_ ?_ ?_ ?_ ?_ ?_ ?_ ?_ ?_ k hk
  · intro h; rw [show (128 : Int) ^ 0 * 128 = 128 by decide] at h ⊢; omega
  · intro h; rw [show (128 : Int) ^ 1 * 128 = 16384 by decide] at h ⊢; omega
  · intro h; rw [show (128 : Int) ^ 2 * 128 = 2097152 by decide] at h ⊢; omega
  · intro h; rw [show (128 : Int) ^ 3 * 128 = 268435456 by decide] at h ⊢; omega
  · intro h; rw [show (128 : Int) ^ 4 * 128 = 34359738368 by decide] at h ⊢; omega
  · intro h; rw [show (128 : Int) ^ 5 * 128 = 4398046511104 by decide] at h ⊢; omega
  · intro h; rw [show (128 : Int) ^ 6 * 128 = 562949953421312 by decide] at h ⊢; omega
  · intro h; rw [show (128 : Int) ^ 7 * 128 = 72057594037927936 by decide] at h ⊢; omega
  · intro h; rw [show (128 : Int) ^ 8 * 128 = 9223372036854775808 by decide] at h ⊢; omega
/-- what is read was laid -/
theorem tk_was (b : List Int) (hb : ∀ x ∈ b, isByte x) : ∀ (k : Nat) (acc : Int), k ≤ 9 → (tk b k acc).2.2 = 0 →
    ∃ v : Nat, tk b k acc = (acc + v * 128 ^ k, (k : Int) + (enc v).length, 0) ∧ b.take (enc v).length = enc v ∧ (enc v).length ≤ b.length ∧ (0 < k → 0 < v) ∧ (v : Int) * 128 ^ k < 18446744073709551616 ∧
      ∀ i, i < (enc v).length → ∀ acc', tk (b.take i) k acc' = (0, 0, 2) := by
  induction b with
  | nil => intro k acc _ h; exact absurd h (by simp [tk_nil])
  | cons c r ih =>
    intro k acc hk h
    have hc := hb c (by simp)
    unfold isByte at hc
    rw [tk_cons] at h
    rw [tk_cons]
    split at h
    · exact absurd h (by simp)
    · rename_i h1
      rw [if_neg h1]
      split at h
      · rename_i h2
        rw [if_pos h2]
        have e : c = ((c.toNat : Nat) : Int) := by omega
        have es : enc c.toNat = [c] := by rw [enc_small (by omega), ← e]
        refine ⟨c.toNat, ?_, ?_, ?_, ?_, ?_, ?_⟩
        · rw [es, ← e]; rfl
        · rw [es]; rfl
        · rw [es]; simp
        · omega
        · rw [← e]
          by_cases k9 : k = 9
          · subst k9
            have e9 : (128 : Int) ^ 9 = 9223372036854775808 := by decide
            rw [e9]; omega
          · have hp := pow_le9 k (by omega)
            have hm : c * 128 ^ k ≤ 127 * 128 ^ k := Int.mul_le_mul_of_nonneg_right (by omega) (by omega)
            omega
        · intro i hi acc'
          rw [es] at hi
          have : i = 0 := by simpa using hi
          subst this; rfl
      · rename_i h2
        rw [if_neg h2]
        obtain ⟨v, g1, g2, g3, g4, g5, g6⟩ := ih (fun x hx => hb x (by simp [hx])) (k + 1) _ (by omega) h
        have hv := g4 (by omega)
        have ev : (c.toNat - 128 + 128 * v) / 128 = v := by omega
        have em : (c.toNat - 128 + 128 * v) % 128 = c.toNat - 128 := by omega
        have eb : enc (c.toNat - 128 + 128 * v) = c :: enc v := by
          rw [enc_big (by omega), ev, em]
          congr 1; omega
        have ep : (128 : Int) ^ (k + 1) = 128 ^ k * 128 := Int.pow_succ _ _
        have en : ((c.toNat - 128 + 128 * v : Nat) : Int) * 128 ^ k = (c - 128) * 128 ^ k + (v : Int) * 128 ^ (k + 1) := by
          have e0 : ((c.toNat - 128 + 128 * v : Nat) : Int) = (c - 128) + (v : Int) * 128 := by omega
          rw [e0, Int.add_mul, ep, Int.mul_assoc, Int.mul_comm 128 (128 ^ k)]
        refine ⟨c.toNat - 128 + 128 * v, ?_, ?_, ?_, ?_, ?_, ?_⟩
        · rw [g1, eb, en]
          simp only [List.length_cons, Prod.mk.injEq, and_true]
          exact ⟨by omega, by push_cast; omega⟩
        · rw [eb, List.length_cons, List.take_succ_cons, g2]
        · rw [eb]; simp only [List.length_cons]; omega
        · omega
        · rw [en]
          by_cases k9 : k = 9
          · omega
          · have hp := pow_le9 k (by omega)
            rw [ep] at g5 ⊢
            have hm : (c - 128) * 128 ^ k ≤ 127 * 128 ^ k := Int.mul_le_mul_of_nonneg_right (by omega) (by omega)
            have key := mult_lt v k (by omega) g5
            omega
        · intro i hi acc'
          rw [eb, List.length_cons] at hi
          cases i with
          | zero => rfl
          | succ i =>
            rw [List.take_succ_cons]
            rw [tk_cons]
            rw [if_neg h1, if_neg h2]
            exact g6 i (by omega) _
theorem clone_f (l : List Int) (h : l.length < 140737488355328) : slices_Clone_byte_byte.f l = some l := by
  unfold slices_Clone_byte_byte.f
  simp only [Option.bind_some, List.length_nil, List.nil_append]
  rw [if_pos (by omega)]
theorem take_nil (k : Nat) : varint_Take.f (k + 1) [] = some (0, 0, 2) := rfl
theorem small_true : decklelaw04_small.f 400 = some true := by kernel_rfl

/-- Bytes, not too many. -/
def Ok (l : List Int) : Prop := (∀ x ∈ l, isByte x) ∧ l.length ≤ 500
theorem Ok.drop {l : List Int} (h : Ok l) (n : Nat) : Ok (l.drop n) := ⟨fun x hx => h.1 x (List.mem_of_mem_drop hx), by rw [List.length_drop]; have := h.2; omega⟩
theorem Ok.nil : Ok [] := ⟨by simp, by simp⟩
/-- Two cursors over the same bytes, one of them p further on. -/
def Rel (p a e f f2 : Int) (l : List Int) : Prop := Ok l ∧ 0 ≤ a ∧ a + (l.length : Int) ≤ 500 ∧ 0 ≤ f ∧ f ≤ 500 ∧ (e = 0 → f2 = f) ∧ (e ≠ 0 → f2 = f + p)
theorem pfail (at_ e z fa : Int) (l : List Int) (x : Int) (hx : x ≠ 0) : cursor_Cursor_Fail.f at_ e z fa l x = some (at_, (if e = 0 then x else e), (if e = 0 then 0 else z), (if e = 0 then at_ else fa), []) := by
  unfold cursor_Cursor_Fail.f cursor_place_note.f
  rw [if_neg hx]
  by_cases h : e = 0
  · simp only [if_pos h, Option.bind_some]
  · simp only [if_neg h, Option.bind_some]
theorem fail_two (p a e z f f2 : Int) (l : List Int) (h : Rel p a e f f2 l) (x : Int) : ∃ (a' e' z' f' f2' : Int) (l' : List Int), cursor_Cursor_Fail.f a e z f l x = some (a', e', z', f', l') ∧ cursor_Cursor_Fail.f (a + p) e z f2 l x = some (a' + p, e', z', f2', l') ∧ Rel p a' e' f' f2' l' := by
  by_cases hx : x = 0
  · subst hx
    exact ⟨a, e, z, f, f2, l, by unfold cursor_Cursor_Fail.f; rw [if_pos rfl], by unfold cursor_Cursor_Fail.f; rw [if_pos rfl], h⟩
  · refine ⟨_, _, _, _, _, _, pfail a e z f l x hx, pfail (a + p) e z f2 l x hx, ?_⟩
    obtain ⟨h1, h2, h3, h4, h5, h6, h7⟩ := h
    by_cases c : e = 0
    · simp only [if_pos c]
      exact ⟨Ok.nil, h2, by simp; omega, h2, by omega, fun y => absurd y hx, fun _ => rfl⟩
    · simp only [if_neg c]
      exact ⟨Ok.nil, h2, by simp; omega, h4, h5, fun y => absurd y c, fun _ => h7 c⟩
theorem take_two (p a e z f f2 : Int) (hp : 0 ≤ p ∧ p ≤ 549755813888) (l : List Int) (h : Rel p a e f f2 l) (n : Int) : ∃ (r : List Int) (a' e' z' f' f2' : Int) (l' : List Int), cursor_Cursor_Take.f a e z f l n = some (r, a', e', z', f', l') ∧ cursor_Cursor_Take.f (a + p) e z f2 l n = some (r, a' + p, e', z', f2', l') ∧ Rel p a' e' f' f2' l' := by
  unfold cursor_Cursor_Take.f
  by_cases c : n < 0 ∨ (l.length : Int) < n
  · obtain ⟨a', e', z', f', f2', l', g1, g2, g3⟩ := fail_two p a e z f f2 l h 2
    rw [if_pos c, if_pos c, g1, g2]
    exact ⟨_, _, _, _, _, _, _, rfl, rfl, g3⟩
  · obtain ⟨h1, h2, h3, h4, h5, h6, h7⟩ := h
    have hl := h1.2
    have hd : (l.drop n.toNat).length = l.length - n.toNat := List.length_drop
    rw [if_neg c, if_neg c, clone_f _ (by rw [List.length_take]; omega), w64 (n := a + n) (by omega) (by omega), w64 (n := a + p + n) (by omega) (by omega)]
    simp only [Option.bind_some]
    rw [show a + p + n = a + n + p by omega]
    exact ⟨_, _, _, _, _, _, _, rfl, rfl, h1.drop _, by omega, by omega, h4, h5, h6, h7⟩
theorem byte_two (p a e z f f2 : Int) (hp : 0 ≤ p ∧ p ≤ 549755813888) (l : List Int) (h : Rel p a e f f2 l) : ∃ (r a' e' z' f' f2' : Int) (l' : List Int), cursor_Cursor_Byte.f a e z f l = some (r, a', e', z', f', l') ∧ cursor_Cursor_Byte.f (a + p) e z f2 l = some (r, a' + p, e', z', f2', l') ∧ Rel p a' e' f' f2' l' := by
  unfold cursor_Cursor_Byte.f
  obtain ⟨r, a', e', z', f', f2', l', g1, g2, g3⟩ := take_two p a e z f f2 hp l h 1
  rw [g1, g2]
  simp only [Option.bind_some]
  by_cases c : (r.length : Int) = 1
  · rw [if_pos c, if_pos c, if_pos (by omega), if_pos (by omega)]
    exact ⟨_, _, _, _, _, _, _, rfl, rfl, g3⟩
  · rw [if_neg c, if_neg c]
    exact ⟨_, _, _, _, _, _, _, rfl, rfl, g3⟩
theorem number_two (K : Nat) (hK : 50 ≤ K) (p a e z f f2 : Int) (hp : 0 ≤ p ∧ p ≤ 549755813888) (l : List Int) (h : Rel p a e f f2 l) (m : Int) : ∃ (r a' e' z' f' f2' : Int) (l' : List Int), cursor_Cursor_number.f K a e z f l m = some (r, a', e', z', f', l') ∧ cursor_Cursor_number.f K (a + p) e z f2 l m = some (r, a' + p, e', z', f2', l') ∧ Rel p a' e' f' f2' l' := by
  obtain ⟨K, rfl⟩ : ∃ q, K = q + 2 := ⟨K - 2, by omega⟩
  have ht := take_eq l h.1.1 (by have := h.1.2; omega) (K + 2) (by omega)
  have j1 : ∀ n s x : Int, ∃ (r a' e' z' f' f2' : Int) (l' : List Int), cursor_Cursor_number.j1 (K + 1) n s x a e z f l = some (r, a', e', z', f', l') ∧ cursor_Cursor_number.j1 (K + 1) n s x (a + p) e z f2 l = some (r, a' + p, e', z', f2', l') ∧ Rel p a' e' f' f2' l' := by
    intro n s x
    rw [cursor_Cursor_number.j1, cursor_Cursor_number.j1]
    by_cases c : x = 0
    · obtain ⟨r, a', e', z', f', f2', l', g1, g2, g3⟩ := take_two p a e z f f2 hp l h s
      rw [if_pos c, if_pos c, g1, g2]
      exact ⟨_, _, _, _, _, _, _, rfl, rfl, g3⟩
    · obtain ⟨a', e', z', f', f2', l', g1, g2, g3⟩ := fail_two p a e z f f2 l h x
      rw [if_neg c, if_neg c, g1, g2]
      exact ⟨_, _, _, _, _, _, _, rfl, rfl, g3⟩
  have j0 : ∀ (n s x : Int) (b : Bool), ∃ (r a' e' z' f' f2' : Int) (l' : List Int), cursor_Cursor_number.j0 (K + 2) n s x b a e z f l = some (r, a', e', z', f', l') ∧ cursor_Cursor_number.j0 (K + 2) n s x b (a + p) e z f2 l = some (r, a' + p, e', z', f2', l') ∧ Rel p a' e' f' f2' l' := by
    intro n s x b
    rw [cursor_Cursor_number.j0, cursor_Cursor_number.j0]
    cases b
    · exact j1 n s x
    · exact j1 n s 3
  unfold cursor_Cursor_number.f
  rw [ht]
  simp only [Option.bind_some]
  by_cases c : (tk l 0 0).2.2 = 0
  · rw [if_pos c, if_pos c]
    exact j0 _ _ _ _
  · rw [if_neg c, if_neg c]
    exact j0 _ _ _ _
theorem num_two (K : Nat) (hK : 50 ≤ K) (p a e z f f2 : Int) (hp : 0 ≤ p ∧ p ≤ 549755813888) (l : List Int) (h : Rel p a e f f2 l) (m : Int) : ∃ (r a' e' z' f' f2' : Int) (l' : List Int), cursor_Cursor_Num.f K a e z f l m = some (r, a', e', z', f', l') ∧ cursor_Cursor_Num.f K (a + p) e z f2 l m = some (r, a' + p, e', z', f2', l') ∧ Rel p a' e' f' f2' l' := by
  unfold cursor_Cursor_Num.f
  by_cases c : m ≥ 0
  · obtain ⟨r, a', e', z', f', f2', l', g1, g2, g3⟩ := number_two K hK p a e z f f2 hp l h (IntKind.u64.wrap m)
    rw [if_pos c, if_pos c, g1, g2]
    exact ⟨_, _, _, _, _, _, _, rfl, rfl, g3⟩
  · have ht := take_eq l h.1.1 (by have := h.1.2; omega) K (by omega)
    rw [if_neg c, if_neg c, ht]
    simp only [Option.bind_some]
    obtain ⟨a', e', z', f', f2', l', g1, g2, g3⟩ := fail_two p a e z f f2 l h (tk l 0 0).2.2
    rw [g1, g2]
    simp only [Option.bind_some]
    obtain ⟨a', e', z', f', f2', l', g1, g2, g3⟩ := fail_two p _ _ z' _ _ _ g3 3
    rw [g1, g2]
    exact ⟨_, _, _, _, _, _, _, rfl, rfl, g3⟩
theorem int_two (K : Nat) (hK : 50 ≤ K) (p a e z f f2 : Int) (hp : 0 ≤ p ∧ p ≤ 549755813888) (l : List Int) (h : Rel p a e f f2 l) : ∃ (r a' e' z' f' f2' : Int) (l' : List Int), cursor_Cursor_Int.f K a e z f l = some (r, a', e', z', f', l') ∧ cursor_Cursor_Int.f K (a + p) e z f2 l = some (r, a' + p, e', z', f2', l') ∧ Rel p a' e' f' f2' l' := by
  unfold cursor_Cursor_Int.f
  obtain ⟨r, a', e', z', f', f2', l', g1, g2, g3⟩ := number_two K hK p a e z f f2 hp l h 18446744073709551615
  rw [g1, g2]
  simp only [Option.bind_some, varint_Zag.f]
  exact ⟨_, _, _, _, _, _, _, rfl, rfl, g3⟩
theorem round (k : Nat) (p : Int) (hp : 0 ≤ p ∧ p ≤ 549755813888) (l : List S42) (i a e z f f2 : Int) (s : List Int) (h : Rel p a e f f2 s) : decklelaw04_CursorPlaces.j2 (k + 2) p l true i true a e z f s (a + p) e z f2 s = decklelaw04_CursorPlaces.l0 k p l true (wrap64 (i + 1)) a e z f s (a + p) e z f2 s := by
  obtain ⟨h1, h2, h3, h4, h5, h6, h7⟩ := h
  have hw : wrap64 (a + p) = a + p := w64 (by omega) (by omega)
  have hf : wrap64 (f + p) = f + p := w64 (by omega) (by omega)
  rw [show k + 2 = (k + 1) + 1 from rfl, decklelaw04_CursorPlaces.j2]
  simp only [cursor_place_Fault.f, Option.bind_some]
  by_cases c : e = 0
  · rw [if_pos c, h6 c, decklelaw04_CursorPlaces.j3, if_pos rfl]
    simp only [cursor_place_Fault.f, cursor_Cursor_Left.f, cursor_place_At.f, Option.bind_some, beq_self_eq_true, Bool.not_true, Bool.or_self, Bool.false_eq_true, if_false, if_true, hw]
  · rw [if_neg c, h7 c, hf, decklelaw04_CursorPlaces.j3, if_pos rfl]
    simp only [cursor_place_Fault.f, cursor_Cursor_Left.f, cursor_place_At.f, Option.bind_some, beq_self_eq_true, Bool.not_true, Bool.or_self, Bool.false_eq_true, if_false, if_true, hw]
theorem loop (p : Int) (hp : 0 ≤ p ∧ p ≤ 549755813888) (l : List S42) (hl : l.length ≤ 100) (d : Nat) : ∀ (K i : Nat) (a e z f f2 : Int) (s : List Int), i ≤ l.length → l.length - i = d → 3 * d + 60 ≤ K → Rel p a e f f2 s → decklelaw04_CursorPlaces.l0 K p l true (i : Int) a e z f s (a + p) e z f2 s = some true := by
  induction d with
  | zero =>
    intro K i a e z f f2 s h1 h2 h3 hs
    obtain ⟨K, rfl⟩ : ∃ q, K = q + 1 := ⟨K - 1, by omega⟩
    have c : ¬ (i : Int) < l.length := by omega
    rw [decklelaw04_CursorPlaces.l0, if_neg c]
  | succ d ih =>
    intro K i a e z f f2 s h1 h2 h3 hs
    obtain ⟨K, rfl⟩ : ∃ q, K = q + 3 := ⟨K - 3, by omega⟩
    have c : (i : Int) < l.length := by omega
    have c0 : (0 : Int) ≤ i := by omega
    have hw1 : wrap64 ((i : Int) + 1) = ((i + 1 : Nat) : Int) := by rw [w64 (by omega) (by omega)]; try omega
    have g1 : i + 1 ≤ l.length := by omega
    have g2 : l.length - (i + 1) = d := by omega
    have g3 : 3 * d + 60 ≤ K := by omega
    have g4 : 50 ≤ K + 2 := by omega
    have next : ∀ (a e z f f2 : Int) (s : List Int), Rel p a e f f2 s → decklelaw04_CursorPlaces.j2 (K + 2) p l true (i : Int) true a e z f s (a + p) e z f2 s = some true := fun a e z f f2 s hs => (round K p hp l i a e z f f2 s hs).trans (by rw [hw1]; exact ih K (i + 1) a e z f f2 s g1 g2 g3 hs)
    clear hw1
    rw [show K + 3 = (K + 2) + 1 from rfl, decklelaw04_CursorPlaces.l0, if_pos c, if_pos c0]
    split
    · obtain ⟨r, a', e', z', f', f2', l', e1, e2, ho⟩ := byte_two p a e z f f2 hp s hs
      rw [e1, e2]
      simp only [Option.bind_some, beq_self_eq_true]
      exact next _ _ _ _ _ _ ho
    split
    · obtain ⟨r, a', e', z', f', f2', l', e1, e2, ho⟩ := num_two (K + 2) g4 p a e z f f2 hp s hs (rd_T42 l i).f1
      rw [e1, e2]
      simp only [Option.bind_some, beq_self_eq_true]
      exact next _ _ _ _ _ _ ho
    split
    · obtain ⟨r, a', e', z', f', f2', l', e1, e2, ho⟩ := int_two (K + 2) g4 p a e z f f2 hp s hs
      rw [e1, e2]
      simp only [Option.bind_some, beq_self_eq_true]
      exact next _ _ _ _ _ _ ho
    split
    · obtain ⟨r, a', e', z', f', f2', l', e1, e2, ho⟩ := take_two p a e z f f2 hp s hs (rd_T42 l i).f1
      rw [e1, e2]
      simp only [Option.bind_some, beq_self_eq_true]
      exact next _ _ _ _ _ _ ho
    · exact next _ _ _ _ _ _ hs
theorem CursorPlacesK (K : Nat) (hK : 390 ≤ K) (hs : decklelaw04_small.f K = some true) (x : List Int) (hx : ∀ y ∈ x, 0 ≤ y ∧ y ≤ 255) (p : Int) (l : List S42) : decklelaw04_CursorPlaces.f K x p l = some true := by
  obtain ⟨K, rfl⟩ : ∃ q, K = q + 1 := ⟨K - 1, by omega⟩
  have yes : decklelaw04_CursorPlaces.j0 (K + 1) x p l true true = some true := by rw [decklelaw04_CursorPlaces.j0, if_pos rfl]
  unfold decklelaw04_CursorPlaces.f
  rw [hs]
  simp only [Option.bind_some]
  by_cases c1 : (x.length : Int) > 500
  · rw [if_pos c1]; exact yes
  rw [if_neg c1]
  by_cases c2 : (l.length : Int) > 100
  · rw [if_pos c2]; exact yes
  rw [if_neg c2]
  by_cases c3 : p < 0
  · rw [if_pos c3]; exact yes
  rw [if_neg c3]
  by_cases c4 : p > 549755813888
  · rw [decide_eq_true c4]; exact yes
  rw [decide_eq_false c4, decklelaw04_CursorPlaces.j0, if_neg (by decide)]
  have o : ∀ q : Int, 0 ≤ q → q ≤ 549755813888 → cursor_Open.f x q = some (q, 0, 0, 0, x) := by
    intro q h1 h2
    unfold cursor_Open.f
    rw [clone_f x (by omega)]
    have e1 : mx q 0 = q := by unfold mx; rw [if_neg (by omega)]
    have e2 : mn q 1099511627776 = q := by unfold mn; rw [if_neg (by omega)]
    rw [e1, e2]
    rfl
  rw [o 0 (by omega) (by omega), o p (by omega) (by omega)]
  simp only [Option.bind_some]
  have := loop p ⟨by omega, by omega⟩ l (by omega) l.length K 0 0 0 0 0 0 x (Nat.zero_le _) rfl (by omega) ⟨⟨hx, by omega⟩, by omega, by omega, by omega, by omega, fun _ => rfl, fun y => absurd rfl y⟩
  rw [Int.zero_add] at this
  exact this
/-- Where bytes stand changes nothing but the places. -/
theorem CursorPlaces (x : List Int) (hx : ∀ y ∈ x, 0 ≤ y ∧ y ≤ 255) (p : Int) (_ : (Lit.int .i64 p).wf = true) (l : List S42) (_ : ∀ y ∈ l, (Lit.int .i64 y.f0).wf = true ∧ (Lit.int .i64 y.f1).wf = true) : decklelaw04_CursorPlaces.f 400 x p l = some true := CursorPlacesK 400 (by decide) small_true x hx p l
end Go.Proofs.Ytgegbiknohjpgaa.Pure
