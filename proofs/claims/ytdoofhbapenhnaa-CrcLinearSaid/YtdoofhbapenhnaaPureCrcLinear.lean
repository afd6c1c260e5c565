/- Three rows of bytes of one length have sums that make the sum of what they make: for every polynomial, all rows. -/
import Derived.Test.YtdoofhbapenhnaaHCrcLinearx5
import Derived.KernelRfl
namespace Go.Proofs.Ytdoofhbapenhnaa.Pure
open Go.RowKit Go.Proofs.Ytdoofhbapenhnaa.HCrcLinear Go.Proofs.YtdoofhbapenhnaaW.PrintWords Go.Proofs.YtdoofhbapenhnaaW.PrintLast Go.Proofs.YtdoofhbapenhnaaW.PrintMore
set_option linter.unusedVariables false
set_option linter.unusedSimpArgs false

theorem w64 {n : Int} (h1 : -9223372036854775808 ≤ n) (h2 : n ≤ 9223372036854775807) : wrap64 n = n := by unfold wrap64; omega
/-- Told from some number of rounds on. -/
def Ev {α : Type} (g : Nat → Option α) (v : α) : Prop := ∃ k0, ∀ k, k0 ≤ k → g k = some v
theorem Ev.const {α : Type} (v : α) : Ev (fun _ => some v) v := ⟨0, fun _ _ => rfl⟩
theorem Ev.bind {α β : Type} {g : Nat → Option α} {F : Nat → α → Option β} {u : α} {v : β} (h : Ev g u) (h2 : Ev (fun k => F k u) v) : Ev (fun k => (g k).bind (F k)) v := by
  obtain ⟨a, ha⟩ := h
  obtain ⟨b, hb⟩ := h2
  exact ⟨a + b, fun k hk => by show (g k).bind (F k) = some v; rw [ha k (by omega), Option.bind_some]; exact hb k (by omega)⟩
theorem Ev.succ {α : Type} {g : Nat → Option α} {v : α} (h : Ev (fun k => g (k + 1)) v) : Ev g v := by
  obtain ⟨a, ha⟩ := h
  refine ⟨a + 1, fun k hk => ?_⟩
  obtain ⟨j, rfl⟩ : ∃ j, k = j + 1 := ⟨k - 1, by omega⟩
  exact ha j (by omega)
theorem Ev.get {α : Type} {g : Nat → Option α} {v : α} (h : Ev g v) : ∃ k, g k = some v := by
  obtain ⟨a, ha⟩ := h
  exact ⟨a, ha a (Nat.le_refl _)⟩
theorem rd_at (b : List Int) (m : Nat) (h : m < b.length) : rd b (m : Int) = b[m] := by
  unfold rd
  rw [List.getD_eq_getElem?_getD, Int.toNat_natCast, List.getElem?_eq_getElem h]; rfl
theorem ix {i n : Nat} (h : i < n) (hn : n ≤ 1099511627776) : wrap64 ((i : Int) + 1) = ((i + 1 : Nat) : Int) := by rw [w64 (by omega) (by omega)]; omega
/-! ### bits -/
theorem xor32 (a b : Nat) (ha : a < 4294967296) (hb : b < 4294967296) : Go.bits .xor .u32 (a : Int) (b : Int) = ((a ^^^ b : Nat) : Int) := by
  have hx : a ^^^ b < 2 ^ 32 := Nat.xor_lt_two_pow ha hb
  have ha' : a % 2 ^ IntKind.u32.bits = a := Nat.mod_eq_of_lt ha
  have hb' : b % 2 ^ IntKind.u32.bits = b := Nat.mod_eq_of_lt hb
  simp only [Go.bits, BitVec.ofInt_natCast, BitVec.toNat_xor, BitVec.toNat_ofNat, ha', hb', IntKind.wrap_u32]
  omega
theorem and32 (a b : Nat) (ha : a < 4294967296) (hb : b < 4294967296) : Go.bits .and .u32 (a : Int) (b : Int) = ((a &&& b : Nat) : Int) := by
  have hx : a &&& b < 2 ^ 32 := Nat.and_lt_two_pow _ hb
  have ha' : a % 2 ^ IntKind.u32.bits = a := Nat.mod_eq_of_lt ha
  have hb' : b % 2 ^ IntKind.u32.bits = b := Nat.mod_eq_of_lt hb
  simp only [Go.bits, BitVec.ofInt_natCast, BitVec.toNat_and, BitVec.toNat_ofNat, ha', hb', IntKind.wrap_u32]
  omega
theorem xor8 (a b : Nat) (ha : a < 256) (hb : b < 256) : Go.bits .xor .u8 (a : Int) (b : Int) = ((a ^^^ b : Nat) : Int) := by
  have hx : a ^^^ b < 2 ^ 8 := Nat.xor_lt_two_pow ha hb
  have ha' : a % 2 ^ IntKind.u8.bits = a := Nat.mod_eq_of_lt ha
  have hb' : b % 2 ^ IntKind.u8.bits = b := Nat.mod_eq_of_lt hb
  simp only [Go.bits, BitVec.ofInt_natCast, BitVec.toNat_xor, BitVec.toNat_ofNat, ha', hb', IntKind.wrap_u8]
  omega
/-- One bit is taken. -/
def st (p n : Nat) : Nat := (n / 2) ^^^ (if n % 2 = 1 then p else 0)
def stN (p : Nat) : Nat → Nat → Nat
  | 0, n => n
  | k + 1, n => stN p k (st p n)
theorem st_lt {p n : Nat} (hp : p < 4294967296) (hn : n < 4294967296) : st p n < 4294967296 := by
  unfold st
  refine Nat.xor_lt_two_pow (n := 32) (by omega) ?_
  split
  · exact hp
  · omega
theorem stN_lt {p : Nat} (hp : p < 4294967296) : ∀ k n, n < 4294967296 → stN p k n < 4294967296 := by
  intro k
  induction k with
  | zero => intro n h; exact h
  | succ k ih => intro n h; exact ih _ (st_lt hp h)
theorem bit1_st {p n : Nat} (hp : p < 4294967296) (hn : n < 4294967296) : bit1 (p : Int) (n : Int) = (st p n : Int) := by
  unfold bit1 st
  have h1 : Go.bits .and .u32 (n : Int) 1 = ((n % 2 : Nat) : Int) := by
    have := and32 n 1 hn (by omega)
    rw [Nat.and_one_is_mod] at this
    exact this
  rw [h1]
  rcases Nat.mod_two_eq_zero_or_one n with e | e
  · rw [e, if_neg (by omega)]
    have h2 : Go.bits .and .u32 (p : Int) (-((0 : Nat) : Int) % 4294967296) = ((p &&& 0 : Nat) : Int) := and32 p 0 hp (by omega)
    rw [h2, Nat.and_zero]
    have h3 := xor32 (n / 2) 0 (by omega) (by omega)
    rw [← h3]
    rfl
  · rw [e, if_pos rfl]
    have h2 : Go.bits .and .u32 (p : Int) (-((1 : Nat) : Int) % 4294967296) = ((p &&& 4294967295 : Nat) : Int) := and32 p 4294967295 hp (by omega)
    have h4 : p &&& 4294967295 = p := by
      have := Nat.and_two_pow_sub_one_eq_mod p 32
      rw [show (2 ^ 32 - 1 : Nat) = 4294967295 from rfl] at this
      rw [this]
      exact Nat.mod_eq_of_lt hp
    rw [h2, h4]
    have h3 := xor32 (n / 2) p (by omega) hp
    rw [← h3]
    rfl
theorem bit2_st {p n : Nat} (hp : p < 4294967296) (hn : n < 4294967296) : bit2 (p : Int) (n : Int) = (st p n : Int) := by
  unfold bit2 st
  have h0 : Int.tmod (n : Int) 2 = ((n % 2 : Nat) : Int) := by rw [Int.tmod_eq_emod_of_nonneg (by omega)]; omega
  have h1 : Int.tdiv (n : Int) 2 % 4294967296 = ((n / 2 : Nat) : Int) := by rw [Int.tdiv_eq_ediv_of_nonneg (by omega)]; omega
  rw [h0, h1]
  rcases Nat.mod_two_eq_zero_or_one n with e | e
  · rw [e, if_neg (show ¬ ((0 : Nat) = 1) by omega), Nat.xor_zero]; rfl
  · rw [e, if_pos (show (1 : Nat) = 1 from rfl)]
    exact xor32 (n / 2) p (by omega) hp
theorem bitsN_st {p : Nat} (hp : p < 4294967296) : ∀ k n : Nat, n < 4294967296 → bitsN (p : Int) k (n : Int) = (stN p k n : Int) := by
  intro k
  induction k with
  | zero => intro n _; rfl
  | succ k ih => intro n h; show bitsN (p : Int) k (bit1 (p : Int) (n : Int)) = _; rw [bit1_st hp h]; exact ih _ (st_lt hp h)
theorem bitsM_st {p : Nat} (hp : p < 4294967296) : ∀ k n : Nat, n < 4294967296 → bitsM (p : Int) k (n : Int) = (stN p k n : Int) := by
  intro k
  induction k with
  | zero => intro n _; rfl
  | succ k ih => intro n h; show bitsM (p : Int) k (bit2 (p : Int) (n : Int)) = _; rw [bit2_st hp h]; exact ih _ (st_lt hp h)
theorem tab_same {p : Nat} (hp : p < 4294967296) : tabOf (bitsN (p : Int) 8) = tabOf (bitsM (p : Int) 8) := by
  unfold tabOf
  refine List.map_congr_left fun i hi => ?_
  have := List.mem_range.1 hi
  rw [bitsN_st hp 8 i (by omega), bitsM_st hp 8 i (by omega)]
theorem wf32 {a : Int} (h : (Lit.int .u32 a).wf = true) : ∃ n : Nat, a = (n : Int) ∧ n < 4294967296 := by
  have e0 : IntKind.u32.min = 0 := by decide
  have e1 : IntKind.u32.max = 4294967295 := by decide
  simp only [Lit.wf, Bool.and_eq_true, decide_eq_true_eq, e0, e1] at h
  exact ⟨a.toNat, by omega, by omega⟩
theorem small_ev : Ev (fun k => decklelaw02_small.f k) true :=
  ⟨100, fun k hk => at_rounds (g := fun k => decklelaw02_small.f k) (fun k => decklelaw02_small.mono k) hk (by decide +kernel)⟩

/-! ### sums, by a table -/
def Wt (t : List Int) : Prop := ∀ i : Nat, i < 256 → (Lit.int .u32 (rd t (i : Int))).wf = true
def T (t : List Int) (i : Nat) : Nat := (rd t (i : Int)).toNat
theorem T_rd {t : List Int} (h : Wt t) {i : Nat} (hi : i < 256) : rd t (i : Int) = (T t i : Int) ∧ T t i < 4294967296 := by
  obtain ⟨n, e, hn⟩ := wf32 (h i hi)
  unfold T
  rw [e, Int.toNat_natCast]
  exact ⟨rfl, hn⟩
def By (l : List Int) : Prop := ∀ y ∈ l, 0 ≤ y ∧ y ≤ 255
theorem By.rd {l : List Int} (h : By l) {i : Nat} (hi : i < l.length) : ∃ c : Nat, rd l (i : Int) = (c : Int) ∧ c < 256 ∧ l[i] = (c : Int) := by
  have := h l[i] (List.getElem_mem _)
  refine ⟨(l[i]).toNat, ?_, by omega, by omega⟩
  rw [rd_at l i hi]; omega
def stepT (t : List Int) (s : Nat) (c : Int) : Nat := (s / 256) ^^^ T t ((s % 256) ^^^ c.toNat)
def reg (t : List Int) (s : Nat) (l : List Int) : Nat := l.foldl (stepT t) s
theorem xor_lt256 {a b : Nat} (ha : a < 256) (hb : b < 256) : a ^^^ b < 256 := Nat.xor_lt_two_pow (n := 8) ha hb
theorem stepT_lt {t : List Int} (ht : Wt t) {s : Nat} {c : Int} (hs : s < 4294967296) (hc : 0 ≤ c ∧ c ≤ 255) : stepT t s c < 4294967296 := by
  unfold stepT
  exact Nat.xor_lt_two_pow (n := 32) (by omega) (T_rd ht (xor_lt256 (by omega) (by omega))).2
theorem reg_lt {t : List Int} (ht : Wt t) : ∀ (l : List Int) (s : Nat), By l → s < 4294967296 → reg t s l < 4294967296 := by
  intro l
  induction l with
  | nil => intro s _ hs; exact hs
  | cons c l ih => intro s hl hs; exact ih _ (fun y hy => hl y (List.mem_cons_of_mem _ hy)) (stepT_lt ht hs (hl c List.mem_cons_self))
theorem reg_append (t : List Int) (s : Nat) (a b : List Int) : reg t s (a ++ b) = reg t (reg t s a) b := List.foldl_append
theorem step_int {t : List Int} (ht : Wt t) {s c : Nat} (hs : s < 4294967296) (hc : c < 256) :
    Go.bits .xor .u8 ((s : Int) % 256) (c : Int) = (((s % 256) ^^^ c : Nat) : Int) ∧ (s % 256) ^^^ c < 256 ∧
    Go.bits .xor .u32 ((s : Int) / 256) (rd t (((s % 256) ^^^ c : Nat) : Int)) = (stepT t s (c : Int) : Int) := by
  have h1 : (s % 256) ^^^ c < 256 := xor_lt256 (by omega) hc
  have h2 := T_rd ht h1
  refine ⟨?_, h1, ?_⟩
  · have := xor8 (s % 256) c (by omega) hc
    rw [← this]; rfl
  · rw [h2.1]
    have := xor32 (s / 256) (T t ((s % 256) ^^^ c)) (by omega) h2.2
    unfold stepT
    rw [Int.toNat_natCast, ← this]; rfl
theorem rdL1_at (b : List (List Int)) (m : Nat) (h : m < b.length) : rd_L1 b (m : Int) = b[m] := by
  unfold rd_L1
  rw [List.getD_eq_getElem?_getD, Int.toNat_natCast, List.getElem?_eq_getElem h]; rfl
def M32 : Nat := 4294967295
theorem M32_lt : M32 < 4294967296 := by decide
def ntg (m s : Nat) : Nat := m ^^^ s
theorem ntg_ntg (m s : Nat) : ntg m (ntg m s) = s := by unfold ntg; rw [← Nat.xor_assoc, Nat.xor_self, Nat.zero_xor]
def nt (s : Nat) : Nat := ntg M32 s
theorem nt_lt {s : Nat} (h : s < 4294967296) : nt s < 4294967296 := Nat.xor_lt_two_pow (n := 32) M32_lt h
theorem bnot {s : Nat} (h : s < 4294967296) : Go.bits .xor .u32 4294967295 (s : Int) = (nt s : Int) := xor32 M32 s M32_lt h
theorem bnot2 {s : Nat} (h : s < 4294967296) : Go.bits .xor .u32 (s : Int) 4294967295 = (nt s : Int) := by
  have := xor32 s M32 h M32_lt
  rw [Nat.xor_comm] at this
  exact this
theorem nt_nt (s : Nat) : nt (nt s) = s := ntg_ntg M32 s
def more (t : List Int) (s : Nat) (l : List Int) : Nat := nt (reg t (nt s) l)
theorem more_lt {t : List Int} (ht : Wt t) {s : Nat} {l : List Int} (hl : By l) (hs : s < 4294967296) : more t s l < 4294967296 := nt_lt (reg_lt ht l _ hl (nt_lt hs))
theorem part_ev {t : List Int} (ht : Wt t) (x13 : List (List Int)) (x14 x15 : Int) (p : List Int) (hp : By p) (hl : p.length ≤ 1099511627776) (v : Int) : ∀ (d i s : Nat), i ≤ p.length → p.length - i = d → s < 4294967296 →
    Ev (fun k => crc_More.l0 k (reg t s (p.drop i) : Int) x13 x14 (wrap64 (x15 + 1)) t) v → Ev (fun k => crc_More.l1 k (s : Int) x13 x14 x15 p (p.length : Int) (i : Int) t) v := by
  intro d
  induction d with
  | zero =>
    intro i s h1 h2 hs hv
    rw [List.drop_eq_nil_of_le (by omega)] at hv
    refine Ev.succ ?_
    simp only [crc_More.l1, if_neg (show ¬ ((i : Int) < (p.length : Int)) by omega)]
    exact hv
  | succ d ih =>
    intro i s h1 h2 hs hv
    have hi : i < p.length := by omega
    obtain ⟨c, e1, hc, e2⟩ := hp.rd hi
    obtain ⟨q1, q2, q3⟩ := step_int ht hs hc
    rw [List.drop_eq_getElem_cons hi, e2] at hv
    refine Ev.succ ?_
    simp only [crc_More.l1, if_pos (show ((i : Int) < (p.length : Int)) by omega), if_pos (show (0 : Int) ≤ (i : Int) by omega), e1, q1, if_pos (show (0 : Int) ≤ (((s % 256) ^^^ c : Nat) : Int) by omega), if_pos (show (((s % 256) ^^^ c : Nat) : Int) < 256 by omega), q3, ix hi hl]
    exact ih (i + 1) (stepT t s (c : Int)) (by omega) (by omega) (stepT_lt ht hs (by omega)) hv
theorem parts_ev {t : List Int} (ht : Wt t) (ps : List (List Int)) (hp : ∀ p ∈ ps, By p ∧ p.length ≤ 1099511627776) (hl : ps.length ≤ 1099511627776) : ∀ (d i s : Nat), i ≤ ps.length → ps.length - i = d → s < 4294967296 →
    Ev (fun k => crc_More.l0 k (s : Int) ps (ps.length : Int) (i : Int) t) (nt (reg t s (ps.drop i).flatten) : Int) := by
  intro d
  induction d with
  | zero =>
    intro i s h1 h2 hs
    rw [List.drop_eq_nil_of_le (by omega)]
    refine Ev.succ ?_
    simp only [crc_More.l0, if_neg (show ¬ ((i : Int) < (ps.length : Int)) by omega)]
    rw [bnot hs]
    exact Ev.const _
  | succ d ih =>
    intro i s h1 h2 hs
    have hi : i < ps.length := by omega
    have hm := hp ps[i] (List.getElem_mem _)
    rw [List.drop_eq_getElem_cons hi, List.flatten_cons, reg_append]
    refine Ev.succ ?_
    simp only [crc_More.l0, if_pos (show ((i : Int) < (ps.length : Int)) by omega), if_pos (show (0 : Int) ≤ (i : Int) by omega), rdL1_at ps i hi]
    refine part_ev ht ps (ps.length : Int) (i : Int) ps[i] hm.1 hm.2 _ ps[i].length 0 s (by omega) (by omega) hs ?_
    rw [List.drop_zero, ix hi hl]
    exact ih (i + 1) _ (by omega) (by omega) (reg_lt ht _ s hm.1 hs)
theorem more_ev {t : List Int} (ht : Wt t) (s : Nat) (hs : s < 4294967296) (ps : List (List Int)) (hp : ∀ p ∈ ps, By p ∧ p.length ≤ 1099511627776) (hl : ps.length ≤ 1099511627776) : Ev (fun k => crc_More.f k t (s : Int) ps) (more t s ps.flatten : Int) := by
  simp only [crc_More.f]
  rw [bnot hs]
  exact parts_ev ht ps hp hl ps.length 0 (nt s) (by omega) (by omega) (nt_lt hs)
theorem sum_ev {t : List Int} (ht : Wt t) (ps : List (List Int)) (hp : ∀ p ∈ ps, By p ∧ p.length ≤ 1099511627776) (hl : ps.length ≤ 1099511627776) : Ev (fun k => crc_Sum.f k t ps) (more t 0 ps.flatten : Int) := by
  simp only [crc_Sum.f]
  exact Ev.bind (more_ev ht 0 (by omega) ps hp hl) (Ev.const _)
theorem cat1_ev (ps : List (List Int)) (hl : ps.length ≤ 1099511627776) : ∀ d i (x : List Int), i ≤ ps.length → ps.length - i = d → x.length + (ps.drop i).flatten.length ≤ 1000000000000 → Ev (fun k => slices_Concat_byte_byte.l1 k x ps (ps.length : Int) (i : Int)) (x ++ (ps.drop i).flatten) := by
  intro d
  induction d with
  | zero =>
    intro i x h1 h2 h3
    rw [List.drop_eq_nil_of_le (show ps.length ≤ i by omega), List.flatten_nil, List.append_nil]
    refine Ev.succ ?_
    simp only [slices_Concat_byte_byte.l1, if_neg (show ¬ ((i : Int) < (ps.length : Int)) by omega)]
    exact Ev.const _
  | succ d ih =>
    intro i x h1 h2 h3
    have hi : i < ps.length := by omega
    rw [List.drop_eq_getElem_cons hi, List.flatten_cons] at h3 ⊢
    rw [List.length_append] at h3
    refine Ev.succ ?_
    simp only [slices_Concat_byte_byte.l1, if_pos (show ((i : Int) < (ps.length : Int)) by omega), if_pos (show (0 : Int) ≤ (i : Int) by omega), rdL1_at ps i hi, ix hi hl, if_pos (show x.length + ps[i].length < 140737488355328 by omega)]
    rw [← List.append_assoc]
    exact ih (i + 1) (x ++ ps[i]) (by omega) (by omega) (by rw [List.length_append]; omega)
theorem cat0_ev (ps : List (List Int)) (hl : ps.length ≤ 1099511627776) (hf : ps.flatten.length ≤ 1000000000000) : ∀ d i (x : Int), i ≤ ps.length → ps.length - i = d → 0 ≤ x → x + ((ps.drop i).flatten.length : Int) ≤ 1000000000000 → Ev (fun k => slices_Concat_byte_byte.l0 k ps x ps (ps.length : Int) (i : Int)) ps.flatten := by
  intro d
  induction d with
  | zero =>
    intro i x h1 h2 h3 h4
    refine Ev.succ ?_
    simp only [slices_Concat_byte_byte.l0, if_neg (show ¬ ((i : Int) < (ps.length : Int)) by omega), slices_Grow_byte_byte.f, if_pos (show 0 ≤ x ∧ x.toNat * 1 ≤ 140737488355328 by omega)]
    refine Ev.bind (Ev.const _) ?_
    have := cat1_ev ps hl ps.length 0 [] (by omega) (by omega) (by simp only [List.length_nil, List.drop_zero]; omega)
    rw [List.nil_append, List.drop_zero] at this
    exact this
  | succ d ih =>
    intro i x h1 h2 h3 h4
    have hi : i < ps.length := by omega
    rw [List.drop_eq_getElem_cons hi, List.flatten_cons, List.length_append] at h4
    have hw : wrap64 (x + (ps[i].length : Int)) = x + (ps[i].length : Int) := w64 (by omega) (by omega)
    refine Ev.succ ?_
    simp only [slices_Concat_byte_byte.l0, if_pos (show ((i : Int) < (ps.length : Int)) by omega), if_pos (show (0 : Int) ≤ (i : Int) by omega), rdL1_at ps i hi, ix hi hl, hw, if_neg (show ¬ (x + (ps[i].length : Int) < 0) by omega)]
    exact ih (i + 1) _ (by omega) (by omega) (by omega) (by omega)
theorem cat_ev (ps : List (List Int)) (hl : ps.length ≤ 1099511627776) (hf : ps.flatten.length ≤ 1000000000000) : Ev (fun k => slices_Concat_byte_byte.f k ps) ps.flatten := by
  simp only [slices_Concat_byte_byte.f]
  exact cat0_ev ps hl hf ps.length 0 0 (by omega) (by omega) (by omega) (by rw [List.drop_zero]; omega)
/-- The four bytes of a sum. -/
def four (n : Nat) : List Int := [(n : Int) % 256, (n : Int) / 256 % 256, (n : Int) / 65536 % 256, (n : Int) / 16777216 % 256]
theorem four_len (n : Nat) : (four n).length = 4 := rfl
def sealed (t : List Int) (l : List Int) : List Int := l ++ four (more t 0 l)
theorem seal_len (t l : List Int) : (sealed t l).length = l.length + 4 := by unfold sealed; rw [List.length_append, four_len]
theorem seal_ev {t : List Int} (ht : Wt t) (ps : List (List Int)) (hp : ∀ p ∈ ps, By p ∧ p.length ≤ 1099511627776) (hl : ps.length ≤ 1099511627776) (hf : ps.flatten.length ≤ 1000000000000) : Ev (fun k => crc_Seal.f k t ps) (sealed t ps.flatten) := by
  simp only [crc_Seal.f]
  refine Ev.bind (sum_ev ht ps hp hl) (Ev.bind (cat_ev ps hl hf) ?_)
  refine Ev.bind (Ev.const _) ?_
  rw [if_pos (by simp only [List.length_cons, List.length_nil]; omega)]
  exact Ev.const _
theorem clone_some (l : List Int) (h : l.length ≤ 1000000000000) : slices_Clone_byte_byte.f l = some l := by
  unfold slices_Clone_byte_byte.f
  simp only [Option.bind_some, List.length_nil, List.nil_append]
  rw [if_pos (by omega)]
noncomputable def opn (t : List Int) (l : List Int) : List Int × Bool := if l.length < 4 then ([], false) else if (strOfNums (sealed t (l.take (l.length - 4)))).toList = (strOfNums l).toList then (l.take (l.length - 4), true) else ([], false)
theorem take_by {l : List Int} (h : By l) (n : Nat) : By (l.take n) := fun y hy => h y (List.mem_of_mem_take hy)
theorem one_part {l : List Int} (h : By l) (hl : l.length ≤ 1099511627776) : ∀ p ∈ [l], By p ∧ p.length ≤ 1099511627776 := fun p hp => by obtain rfl := List.mem_singleton.1 hp; exact ⟨h, hl⟩
theorem open_ev {t : List Int} (ht : Wt t) (l : List Int) (h : By l) (hl : l.length ≤ 900000000000) : Ev (fun k => crc_Open.f k t l) (opn t l) := by
  unfold opn
  by_cases h4 : l.length < 4
  · have hw : wrap64 ((l.length : Int) - 4) = (l.length : Int) - 4 := w64 (by omega) (by omega)
    simp only [crc_Open.f, hw, if_pos (show ((l.length : Int) - 4) < 0 by omega), if_pos h4]
    exact Ev.const _
  · have hw : wrap64 ((l.length : Int) - 4) = ((l.length - 4 : Nat) : Int) := by rw [w64 (by omega) (by omega)]; omega
    simp only [crc_Open.f, hw, if_neg (show ¬ (((l.length - 4 : Nat) : Int) < 0) by omega), if_neg h4, if_pos (show (0 : Int) ≤ ((l.length - 4 : Nat) : Int) by omega), if_pos (show ((l.length - 4 : Nat) : Int) ≤ (l.length : Int) by omega), Int.toNat_natCast]
    have htl : (l.take (l.length - 4)).length ≤ 900000000000 := by rw [List.length_take]; omega
    have hs := seal_ev ht [l.take (l.length - 4)] (one_part (take_by h _) (by omega)) (by simp) (by simp only [List.flatten_cons, List.flatten_nil, List.append_nil]; omega)
    simp only [List.flatten_cons, List.flatten_nil, List.append_nil] at hs
    refine Ev.bind hs ?_
    unfold bytes_Equal.f
    refine Ev.bind (Ev.const _) ?_
    by_cases e : (strOfNums (sealed t (l.take (l.length - 4)))).toList = (strOfNums l).toList
    · simp only [e, BEq.rfl, if_true]
      rw [clone_some _ (by omega)]
      exact Ev.bind (Ev.const _) (Ev.const _)
    · have : ((strOfNums (sealed t (l.take (l.length - 4)))).toList == (strOfNums l).toList) = false := beq_eq_false_iff_ne.mpr e
      simp only [this, if_neg e, Bool.false_eq_true, if_false]
      exact Ev.const _
theorem opn_seal (t l : List Int) : opn t (sealed t l) = (l, true) := by
  have hn : (sealed t l).take ((sealed t l).length - 4) = l := by
    rw [seal_len, Nat.add_sub_cancel]
    unfold sealed
    exact List.take_left' rfl
  unfold opn
  rw [if_neg (by rw [seal_len]; omega), hn, if_pos rfl]
theorem four_by (n : Nat) : By (four n) := by
  intro y hy
  unfold four at hy
  simp only [List.mem_cons, List.not_mem_nil, or_false] at hy
  rcases hy with rfl | rfl | rfl | rfl <;> omega
theorem seal_by {t l : List Int} (h : By l) : By (sealed t l) := by
  intro y hy
  unfold sealed at hy
  rcases List.mem_append.1 hy with h1 | h1
  · exact h y h1
  · exact four_by _ y h1

/-! ### sums as numbers: the register behind all bytes is what 8 n steps make of it and of their number -/
theorem st_xor (p a b : Nat) : st p (a ^^^ b) = st p a ^^^ st p b := by
  unfold st
  have h1 : (a ^^^ b) / 2 = (a / 2) ^^^ (b / 2) := by
    apply Nat.eq_of_testBit_eq
    intro i
    simp only [Nat.testBit_xor, Nat.testBit_div_two]
  have h2 : (a ^^^ b) % 2 = (a % 2) ^^^ (b % 2) := Nat.xor_mod_two_pow (a := a) (b := b) (n := 1)
  rw [h1, h2]
  generalize a / 2 = x
  generalize b / 2 = y
  rcases Nat.mod_two_eq_zero_or_one a with e | e <;> rcases Nat.mod_two_eq_zero_or_one b with f | f <;> rw [e, f]
  · simp
  · simp [Nat.xor_assoc]
  · simp only [show (1 ^^^ 0 : Nat) = 1 from rfl, if_true, show ¬ ((0 : Nat) = 1) by omega, if_false, Nat.xor_zero]
    rw [Nat.xor_assoc, Nat.xor_comm y p, ← Nat.xor_assoc]
  · simp only [show (1 ^^^ 1 : Nat) = 0 from rfl, if_true, show ¬ ((0 : Nat) = 1) by omega, if_false, Nat.xor_zero]
    rw [Nat.xor_assoc, ← Nat.xor_assoc p y p, Nat.xor_comm p y, Nat.xor_assoc y p p, Nat.xor_self, Nat.xor_zero]
theorem stN_xor (p : Nat) : ∀ (k a b : Nat), stN p k (a ^^^ b) = stN p k a ^^^ stN p k b := by
  intro k
  induction k with
  | zero => intro a b; rfl
  | succ k ih => intro a b; show stN p k (st p (a ^^^ b)) = _; rw [st_xor]; exact ih _ _
theorem stN_add (p : Nat) : ∀ (a b n : Nat), stN p (a + b) n = stN p b (stN p a n) := by
  intro a
  induction a with
  | zero => intro b n; rw [Nat.zero_add]; rfl
  | succ a ih => intro b n; rw [Nat.add_right_comm]; show stN p (a + b) (st p n) = _; exact ih b _
theorem st_even (p m : Nat) : st p (2 * m) = m := by
  unfold st
  rw [if_neg (by omega), Nat.xor_zero]; omega
theorem stN_shift (p : Nat) : ∀ (k m : Nat), stN p k (2 ^ k * m) = m := by
  intro k
  induction k with
  | zero => intro m; show 2 ^ 0 * m = m; rw [Nat.pow_zero, Nat.one_mul]
  | succ k ih =>
    intro m
    show stN p k (st p (2 ^ (k + 1) * m)) = m
    rw [show 2 ^ (k + 1) * m = 2 * (2 ^ k * m) by rw [Nat.pow_succ, Nat.mul_assoc, Nat.mul_left_comm], st_even]
    exact ih m
theorem split8 (n : Nat) : (256 * (n / 256)) ^^^ (n % 256) = n := by
  apply Nat.eq_of_testBit_eq
  intro i
  have h1 : (256 * (n / 256)).testBit i = (decide (i ≥ 8) && n.testBit i) := by
    have := Nat.testBit_two_pow_mul (i := 8) (a := n / 256) (j := i)
    rw [show (2 ^ 8 : Nat) = 256 from rfl] at this
    rw [this]
    by_cases h : i ≥ 8
    · have h2 := Nat.testBit_div_two_pow (x := n) (n := 8) (i := i - 8)
      rw [show (2 ^ 8 : Nat) = 256 from rfl] at h2
      rw [h2]
      congr 2
      omega
    · rw [decide_eq_false h]; rfl
  have h2 : (n % 256).testBit i = (decide (i < 8) && n.testBit i) := Nat.testBit_mod_two_pow n 8 i
  rw [Nat.testBit_xor, h1, h2]
  by_cases h : i < 8
  · rw [decide_eq_false (show ¬ i ≥ 8 by omega), decide_eq_true h]; simp
  · rw [decide_eq_true (show i ≥ 8 by omega), decide_eq_false h]; simp
/-- The table of a polynomial. -/
noncomputable def tb (p : Nat) : List Int := tabOf (bitsN (p : Int) 8)
theorem tb_rd {p : Nat} (hp : p < 4294967296) {i : Nat} (hi : i < 256) : rd (tb p) (i : Int) = (stN p 8 i : Int) := by
  unfold tb tabOf rd
  rw [List.getD_eq_getElem?_getD, Int.toNat_natCast, List.getElem?_map, List.getElem?_range hi]
  exact bitsN_st hp 8 i (by omega)
theorem wf_of32 {n : Nat} (h : n < 4294967296) : (Lit.int .u32 (n : Int)).wf = true := by
  have e0 : IntKind.u32.min = 0 := by decide
  have e1 : IntKind.u32.max = 4294967295 := by decide
  simp only [Lit.wf, Bool.and_eq_true, decide_eq_true_eq, e0, e1]
  omega
theorem tb_wt {p : Nat} (hp : p < 4294967296) : Wt (tb p) := by
  intro i hi
  rw [tb_rd hp hi]
  exact wf_of32 (stN_lt hp 8 i (by omega))
theorem tb_step {p : Nat} (hp : p < 4294967296) {s c : Nat} (hs : s < 4294967296) (hc : c < 256) : stepT (tb p) s (c : Int) = stN p 8 (s ^^^ c) := by
  have hx : (s % 256) ^^^ c < 256 := xor_lt256 (by omega) hc
  unfold stepT T
  rw [Int.toNat_natCast, tb_rd hp hx, Int.toNat_natCast]
  have h1 : s ^^^ c = (256 * (s / 256)) ^^^ ((s % 256) ^^^ c) := by rw [← Nat.xor_assoc, split8]
  rw [h1, stN_xor p 8 (256 * (s / 256))]
  have := stN_shift p 8 (s / 256)
  rw [show (2 ^ 8 : Nat) = 256 from rfl] at this
  rw [this]
/-- Bytes as a number, the first one lowest. -/
def num : List Int → Nat
  | [] => 0
  | c :: l => c.toNat ^^^ (256 * num l)
theorem reg_num {p : Nat} (hp : p < 4294967296) : ∀ (l : List Int) (s : Nat), By l → s < 4294967296 → reg (tb p) s l = stN p (8 * l.length) (s ^^^ num l) := by
  intro l
  induction l with
  | nil => intro s _ _; simp only [num, List.length_nil, Nat.xor_zero]; rfl
  | cons c l ih =>
    intro s hl hs
    have hc := hl c List.mem_cons_self
    obtain ⟨m, rfl⟩ : ∃ m : Nat, c = (m : Int) := ⟨c.toNat, by omega⟩
    have hm : m < 256 := by omega
    show reg (tb p) (stepT (tb p) s (m : Int)) l = _
    have hlt : stepT (tb p) s (m : Int) < 4294967296 := stepT_lt (tb_wt hp) hs hc
    rw [ih _ (fun y hy => hl y (List.mem_cons_of_mem _ hy)) hlt, tb_step hp hs hm]
    rw [List.length_cons, show 8 * (l.length + 1) = 8 + 8 * l.length by omega, stN_add]
    congr 1
    simp only [num, Int.toNat_natCast]
    rw [← Nat.xor_assoc, stN_xor p 8 (s ^^^ m)]
    have := stN_shift p 8 (num l)
    rw [show (2 ^ 8 : Nat) = 256 from rfl] at this
    rw [this]
theorem st_zero {p n : Nat} (hp : 2147483648 ≤ p) (hp2 : p < 4294967296) (hn : n < 4294967296) (h : st p n = 0) : n = 0 := by
  unfold st at h
  rcases Nat.mod_two_eq_zero_or_one n with e | e
  · rw [if_neg (by omega), Nat.xor_zero] at h; omega
  · rw [if_pos e] at h
    have h1 : (n / 2).testBit 31 = false := Nat.testBit_lt_two_pow (show n / 2 < 2 ^ 31 by omega)
    have h2 : p.testBit 31 = true := by
      rw [Nat.testBit_eq_decide_div_mod_eq]
      exact decide_eq_true (by omega)
    have h3 := congrArg (fun x => Nat.testBit x 31) h
    simp only [Nat.testBit_xor, h1, h2, Nat.zero_testBit] at h3
    exact absurd h3 (by decide)
theorem stN_zero {p : Nat} (hp : 2147483648 ≤ p) (hp2 : p < 4294967296) : ∀ (k n : Nat), n < 4294967296 → stN p k n = 0 → n = 0 := by
  intro k
  induction k with
  | zero => intro n _ h; exact h
  | succ k ih => intro n hn h; exact st_zero hp hp2 hn (ih _ (st_lt hp2 hn) h)

theorem pow_xor (k a b : Nat) : 2 ^ k * (a ^^^ b) = (2 ^ k * a) ^^^ (2 ^ k * b) := by
  apply Nat.eq_of_testBit_eq
  intro i
  have e : ∀ z : Nat, (2 ^ k * z).testBit i = (decide (i ≥ k) && z.testBit (i - k)) := fun z => Nat.testBit_two_pow_mul
  rw [Nat.testBit_xor, e, e, e, Nat.testBit_xor]
  cases decide (i ≥ k) <;> simp
theorem mul256_xor (a b : Nat) : 256 * (a ^^^ b) = (256 * a) ^^^ (256 * b) := pow_xor 8 a b
theorem num_append (l : List Int) (c : Int) : num (l ++ [c]) = num l ^^^ (2 ^ (8 * l.length) * c.toNat) := by
  induction l with
  | nil => simp only [List.nil_append, num, List.length_nil, Nat.mul_zero, Nat.xor_zero, Nat.pow_zero, Nat.one_mul, Nat.zero_xor]
  | cons x l ih =>
    simp only [List.cons_append, num, List.length_cons]
    rw [ih, mul256_xor, ← Nat.xor_assoc]
    congr 1
    rw [show 8 * (l.length + 1) = 8 + 8 * l.length by omega, Nat.pow_add, Nat.mul_assoc]
theorem xor3 (m a b c : Nat) : (m ^^^ a) ^^^ (m ^^^ b) ^^^ (m ^^^ c) = m ^^^ (a ^^^ b ^^^ c) := by
  apply Nat.eq_of_testBit_eq
  intro i
  simp only [Nat.testBit_xor]
  cases m.testBit i <;> cases a.testBit i <;> cases b.testBit i <;> cases c.testBit i <;> rfl
theorem ntg3 (m a b c : Nat) : ntg m a ^^^ ntg m b ^^^ ntg m c = ntg m (a ^^^ b ^^^ c) := xor3 m a b c
theorem xor33 (k a b c d e f : Nat) : (a ^^^ b ^^^ c) ^^^ (2 ^ k * (d ^^^ e ^^^ f)) = (a ^^^ (2 ^ k * d)) ^^^ (b ^^^ (2 ^ k * e)) ^^^ (c ^^^ (2 ^ k * f)) := by
  rw [pow_xor, pow_xor]
  generalize 2 ^ k * d = x
  generalize 2 ^ k * e = y
  generalize 2 ^ k * f = z
  apply Nat.eq_of_testBit_eq
  intro i
  simp only [Nat.testBit_xor]
  cases a.testBit i <;> cases b.testBit i <;> cases c.testBit i <;> cases x.testBit i <;> cases y.testBit i <;> cases z.testBit i <;> rfl
theorem more_three {p : Nat} (hp : p < 4294967296) (d a b c : List Int) (hd : By d) (ha : By a) (hb : By b) (hc : By c) (h1 : d.length = a.length) (h2 : b.length = a.length) (h3 : c.length = a.length) (h : num d = num a ^^^ num b ^^^ num c) :
    more (tb p) 0 d = more (tb p) 0 a ^^^ more (tb p) 0 b ^^^ more (tb p) 0 c := by
  have hs : nt 0 < 4294967296 := nt_lt (by omega)
  unfold more
  rw [reg_num hp d _ hd hs, reg_num hp a _ ha hs, reg_num hp b _ hb hs, reg_num hp c _ hc hs, h1, h2, h3, h]
  unfold nt
  rw [ntg3]
  congr 1
  rw [← stN_xor, ← stN_xor, xor3]
theorem linear_loop {p : Nat} (hp : p < 4294967296) (a b c : List Int) (ha : By a) (hb : By b) (hc : By c) (hl : a.length ≤ 300) (h2 : b.length = a.length) (h3 : c.length = a.length) : ∀ (d i : Nat) (x : List Int), i ≤ a.length → a.length - i = d → By x → x.length = i → num x = num (a.take i) ^^^ num (b.take i) ^^^ num (c.take i) →
    Ev (fun k => decklelaw02_CrcLinear.l0 k a b c true x (i : Int) (tb p)) true := by
  intro d
  induction d with
  | zero =>
    intro i x g1 g2 hx hxl hn
    obtain rfl : i = a.length := by clear hn; omega
    refine Ev.succ ?_
    simp only [decklelaw02_CrcLinear.l0, if_neg (Int.lt_irrefl (a.length : Int)), if_true]
    rw [List.take_length, ← h2, List.take_length, h2, ← h3, List.take_length] at hn
    have hx3 : x.length ≤ 300 := by omega
    have s0 := sum_ev (tb_wt hp) [x] (one_part hx (by clear hn; omega)) (by simp)
    have s1 := sum_ev (tb_wt hp) [a] (one_part ha (by clear hn; omega)) (by simp)
    have s2 := sum_ev (tb_wt hp) [b] (one_part hb (by clear hn; omega)) (by simp)
    have s3 := sum_ev (tb_wt hp) [c] (one_part hc (by clear hn; omega)) (by simp)
    simp only [List.flatten_cons, List.flatten_nil, List.append_nil] at s0 s1 s2 s3
    refine Ev.bind s0 (Ev.bind s1 (Ev.bind s2 (Ev.bind s3 ?_)))
    have m1 := more_lt (tb_wt hp) ha (show 0 < 4294967296 by omega)
    have m2 := more_lt (tb_wt hp) hb (show 0 < 4294967296 by omega)
    have m3 := more_lt (tb_wt hp) hc (show 0 < 4294967296 by omega)
    rw [xor32 _ _ m1 m2, xor32 _ _ (Nat.xor_lt_two_pow (n := 32) m1 m2) m3, ← more_three hp x a b c hx ha hb hc hxl h2 h3 hn, BEq.rfl]
    exact Ev.const _
  | succ d ih =>
    intro i x g1 g2 hx hxl hn
    have hi : i < a.length := by clear hn ih; omega
    obtain ⟨u, e1, hu, f1⟩ := ha.rd hi
    obtain ⟨v, e2, hv, f2⟩ := hb.rd (show i < b.length by clear hn ih; omega)
    obtain ⟨z, e3, hz, f3⟩ := hc.rd (show i < c.length by clear hn ih; omega)
    have q1 := xor8 u v hu hv
    have q2 := xor8 (u ^^^ v) z (xor_lt256 hu hv) hz
    have q3 : (u ^^^ v) ^^^ z < 256 := xor_lt256 (xor_lt256 hu hv) hz
    refine Ev.succ ?_
    simp only [decklelaw02_CrcLinear.l0, if_pos (Int.ofNat_lt.2 hi), if_pos (Int.natCast_nonneg i), if_pos (show (i : Int) < (b.length : Int) by clear hn ih q1 q2 q3; omega), if_pos (show (i : Int) < (c.length : Int) by clear hn ih q1 q2 q3; omega), if_pos (show x.length < 140737488355328 by clear hn ih q1 q2 q3; omega), e1, e2, e3, q1, q2, ix hi (show a.length ≤ 1099511627776 by clear hn ih q1 q2 q3; omega)]
    refine ih (i + 1) _ hi (by clear hn ih q1 q2 q3; omega) ?_ (by rw [List.length_append, hxl]; rfl) ?_
    · intro y hy
      rcases List.mem_append.1 hy with h | h
      · exact hx y h
      · obtain rfl := List.mem_singleton.1 h
        clear hn ih q1 q2
        omega
    · have t1 : a.take (i + 1) = a.take i ++ [(u : Int)] := by rw [List.take_succ_eq_append_getElem hi, f1]
      have t2 : b.take (i + 1) = b.take i ++ [(v : Int)] := by rw [List.take_succ_eq_append_getElem (show i < b.length by clear hn ih q1 q2 q3; omega), f2]
      have t3 : c.take (i + 1) = c.take i ++ [(z : Int)] := by rw [List.take_succ_eq_append_getElem (show i < c.length by clear hn ih q1 q2 q3; omega), f3]
      have l1 : (a.take i).length = i := by rw [List.length_take]; clear hn ih q1 q2 q3; omega
      have l2 : (b.take i).length = i := by rw [List.length_take]; clear hn ih q1 q2 q3; omega
      have l3 : (c.take i).length = i := by rw [List.length_take]; clear hn ih q1 q2 q3; omega
      rw [t1, t2, t3, num_append, num_append, num_append, num_append, l1, l2, l3, hxl, hn]
      simp only [Int.toNat_natCast]
      exact xor33 (8 * i) _ _ _ u v z
theorem CrcLinear (p : Int) (wp : (Lit.int .u32 p).wf = true) (a : List Int) (ha : ∀ y ∈ a, 0 ≤ y ∧ y ≤ 255) (b : List Int) (hb : ∀ y ∈ b, 0 ≤ y ∧ y ≤ 255) (c : List Int) (hc : ∀ y ∈ c, 0 ≤ y ∧ y ≤ 255) : ∃ k, decklelaw02_CrcLinear.f k p a b c = some true := by
  obtain ⟨p, rfl, hp⟩ := wf32 wp
  have out : Ev (fun k => decklelaw02_CrcLinear.j0 k (p : Int) a b c true true) true := by
    refine Ev.succ ?_
    simp only [decklelaw02_CrcLinear.j0, if_true]
    exact Ev.const _
  have main : Ev (fun k => decklelaw02_CrcLinear.f k (p : Int) a b c) true := by
    simp only [decklelaw02_CrcLinear.f]
    refine Ev.bind small_ev ?_
    by_cases g1 : (a.length : Int) > 300
    · simp only [if_pos g1]; exact out
    · simp only [if_neg g1]
      by_cases g2 : (b.length : Int) = (a.length : Int)
      · simp only [if_pos g2]
        by_cases g3 : (c.length : Int) = (a.length : Int)
        · rw [show ((c.length : Int) != (a.length : Int)) = false from bne_eq_false_iff_eq.2 g3]
          refine Ev.succ ?_
          simp only [decklelaw02_CrcLinear.j0, Bool.false_eq_true, if_false]
          refine Ev.bind (u := tb p) (Ev.const _) ?_
          exact linear_loop hp a b c ha hb hc (by omega) (by omega) (by omega) a.length 0 [] (by omega) (by omega) (by intro y hy; simp at hy) rfl (by simp [num])
        · rw [show ((c.length : Int) != (a.length : Int)) = true from bne_iff_ne.2 g3]
          exact out
      · simp only [if_neg g2]; exact out
  exact main.get

end Go.Proofs.Ytdoofhbapenhnaa.Pure
