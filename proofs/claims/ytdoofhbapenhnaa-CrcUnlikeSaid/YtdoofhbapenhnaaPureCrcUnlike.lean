/- Bytes that are unlike in some of thirty-two bits alone that stand one behind the other have unlike sums: for all bytes, every polynomial of 2^31 or more. -/
import Derived.Test.YtdoofhbapenhnaaHCrcUnlikex4
import Derived.KernelRfl
namespace Go.Proofs.Ytdoofhbapenhnaa.Pure
open Go.RowKit Go.Proofs.Ytdoofhbapenhnaa.HCrcUnlike Go.Proofs.YtdoofhbapenhnaaW.PrintWords Go.Proofs.YtdoofhbapenhnaaW.PrintLast Go.Proofs.YtdoofhbapenhnaaW.PrintMore
set_option linter.unusedVariables false
set_option linter.unusedSimpArgs false

theorem w64 {n : Int} (h1 : -9223372036854775808 ≤ n) (h2 : n ≤ 9223372036854775807) : wrap64 n = n := by unfold wrap64; omega
/-- Told from some number of rounds on. -/
def Ev {α : Type} (g : Nat → Option α) (v : α) : Prop := ∃ k0, ∀ k, k0 ≤ k → g k = some v
theorem Ev.const {α : Type} (v : α) : Ev (fun _ => some v) v := ⟨0, fun _ _ => rfl⟩
theorem Ev.bind {α β : Type} {g : Nat → Option α} {F : Nat → α → Option β} {u : α} {v : β} (h : Ev g u) (h2 : Ev (fun k => F k u) v) : Ev (fun k => (g k).bind (F k)) v := by
  obtain ⟨a, ha⟩ := h
  obtain ⟨b, hb⟩ := h2
  exact ⟨a + b, fun k hk => by show (g k).bind (F k) = some v; rw [ha k (by omega), Option.bind_some]; exact hb k (by omega)⟩
theorem Ev.succ {α : Type} {g : Nat → Option α} {v : α} (h : Ev (fun k => g (k + 1)) v) : Ev g v := by
  obtain ⟨a, ha⟩ := h
  refine ⟨a + 1, fun k hk => ?_⟩
  obtain ⟨j, rfl⟩ : ∃ j, k = j + 1 := ⟨k - 1, by omega⟩
  exact ha j (by omega)
theorem Ev.get {α : Type} {g : Nat → Option α} {v : α} (h : Ev g v) : ∃ k, g k = some v := by
  obtain ⟨a, ha⟩ := h
  exact ⟨a, ha a (Nat.le_refl _)⟩
theorem rd_at (b : List Int) (m : Nat) (h : m < b.length) : rd b (m : Int) = b[m] := by
  unfold rd
  rw [List.getD_eq_getElem?_getD, Int.toNat_natCast, List.getElem?_eq_getElem h]; rfl
theorem ix {i n : Nat} (h : i < n) (hn : n ≤ 1099511627776) : wrap64 ((i : Int) + 1) = ((i + 1 : Nat) : Int) := by rw [w64 (by omega) (by omega)]; omega
/-! ### bits -/
theorem xor32 (a b : Nat) (ha : a < 4294967296) (hb : b < 4294967296) : Go.bits .xor .u32 (a : Int) (b : Int) = ((a ^^^ b : Nat) : Int) := by
  have hx : a ^^^ b < 2 ^ 32 := Nat.xor_lt_two_pow ha hb
  have ha' : a % 2 ^ IntKind.u32.bits = a := Nat.mod_eq_of_lt ha
  have hb' : b % 2 ^ IntKind.u32.bits = b := Nat.mod_eq_of_lt hb
  simp only [Go.bits, BitVec.ofInt_natCast, BitVec.toNat_xor, BitVec.toNat_ofNat, ha', hb', IntKind.wrap_u32]
  omega
theorem and32 (a b : Nat) (ha : a < 4294967296) (hb : b < 4294967296) : Go.bits .and .u32 (a : Int) (b : Int) = ((a &&& b : Nat) : Int) := by
  have hx : a &&& b < 2 ^ 32 := Nat.and_lt_two_pow _ hb
  have ha' : a % 2 ^ IntKind.u32.bits = a := Nat.mod_eq_of_lt ha
  have hb' : b % 2 ^ IntKind.u32.bits = b := Nat.mod_eq_of_lt hb
  simp only [Go.bits, BitVec.ofInt_natCast, BitVec.toNat_and, BitVec.toNat_ofNat, ha', hb', IntKind.wrap_u32]
  omega
theorem xor8 (a b : Nat) (ha : a < 256) (hb : b < 256) : Go.bits .xor .u8 (a : Int) (b : Int) = ((a ^^^ b : Nat) : Int) := by
  have hx : a ^^^ b < 2 ^ 8 := Nat.xor_lt_two_pow ha hb
  have ha' : a % 2 ^ IntKind.u8.bits = a := Nat.mod_eq_of_lt ha
  have hb' : b % 2 ^ IntKind.u8.bits = b := Nat.mod_eq_of_lt hb
  simp only [Go.bits, BitVec.ofInt_natCast, BitVec.toNat_xor, BitVec.toNat_ofNat, ha', hb', IntKind.wrap_u8]
  omega
/-- One bit is taken. -/
def st (p n : Nat) : Nat := (n / 2) ^^^ (if n % 2 = 1 then p else 0)
def stN (p : Nat) : Nat → Nat → Nat
  | 0, n => n
  | k + 1, n => stN p k (st p n)
theorem st_lt {p n : Nat} (hp : p < 4294967296) (hn : n < 4294967296) : st p n < 4294967296 := by
  unfold st
  refine Nat.xor_lt_two_pow (n := 32) (by omega) ?_
  split
  · exact hp
  · omega
theorem stN_lt {p : Nat} (hp : p < 4294967296) : ∀ k n, n < 4294967296 → stN p k n < 4294967296 := by
  intro k
  induction k with
  | zero => intro n h; exact h
  | succ k ih => intro n h; exact ih _ (st_lt hp h)
theorem bit1_st {p n : Nat} (hp : p < 4294967296) (hn : n < 4294967296) : bit1 (p : Int) (n : Int) = (st p n : Int) := by
  unfold bit1 st
  have h1 : Go.bits .and .u32 (n : Int) 1 = ((n % 2 : Nat) : Int) := by
    have := and32 n 1 hn (by omega)
    rw [Nat.and_one_is_mod] at this
    exact this
  rw [h1]
  rcases Nat.mod_two_eq_zero_or_one n with e | e
  · rw [e, if_neg (by omega)]
    have h2 : Go.bits .and .u32 (p : Int) (-((0 : Nat) : Int) % 4294967296) = ((p &&& 0 : Nat) : Int) := and32 p 0 hp (by omega)
    rw [h2, Nat.and_zero]
    have h3 := xor32 (n / 2) 0 (by omega) (by omega)
    rw [← h3]
    rfl
  · rw [e, if_pos rfl]
    have h2 : Go.bits .and .u32 (p : Int) (-((1 : Nat) : Int) % 4294967296) = ((p &&& 4294967295 : Nat) : Int) := and32 p 4294967295 hp (by omega)
    have h4 : p &&& 4294967295 = p := by
      have := Nat.and_two_pow_sub_one_eq_mod p 32
      rw [show (2 ^ 32 - 1 : Nat) = 4294967295 from rfl] at this
      rw [this]
      exact Nat.mod_eq_of_lt hp
    rw [h2, h4]
    have h3 := xor32 (n / 2) p (by omega) hp
    rw [← h3]
    rfl
theorem bit2_st {p n : Nat} (hp : p < 4294967296) (hn : n < 4294967296) : bit2 (p : Int) (n : Int) = (st p n : Int) := by
  unfold bit2 st
  have h0 : Int.tmod (n : Int) 2 = ((n % 2 : Nat) : Int) := by rw [Int.tmod_eq_emod_of_nonneg (by omega)]; omega
  have h1 : Int.tdiv (n : Int) 2 % 4294967296 = ((n / 2 : Nat) : Int) := by rw [Int.tdiv_eq_ediv_of_nonneg (by omega)]; omega
  rw [h0, h1]
  rcases Nat.mod_two_eq_zero_or_one n with e | e
  · rw [e, if_neg (show ¬ ((0 : Nat) = 1) by omega), Nat.xor_zero]; rfl
  · rw [e, if_pos (show (1 : Nat) = 1 from rfl)]
    exact xor32 (n / 2) p (by omega) hp
theorem bitsN_st {p : Nat} (hp : p < 4294967296) : ∀ k n : Nat, n < 4294967296 → bitsN (p : Int) k (n : Int) = (stN p k n : Int) := by
  intro k
  induction k with
  | zero => intro n _; rfl
  | succ k ih => intro n h; show bitsN (p : Int) k (bit1 (p : Int) (n : Int)) = _; rw [bit1_st hp h]; exact ih _ (st_lt hp h)
theorem bitsM_st {p : Nat} (hp : p < 4294967296) : ∀ k n : Nat, n < 4294967296 → bitsM (p : Int) k (n : Int) = (stN p k n : Int) := by
  intro k
  induction k with
  | zero => intro n _; rfl
  | succ k ih => intro n h; show bitsM (p : Int) k (bit2 (p : Int) (n : Int)) = _; rw [bit2_st hp h]; exact ih _ (st_lt hp h)
theorem tab_same {p : Nat} (hp : p < 4294967296) : tabOf (bitsN (p : Int) 8) = tabOf (bitsM (p : Int) 8) := by
  unfold tabOf
  refine List.map_congr_left fun i hi => ?_
  have := List.mem_range.1 hi
  rw [bitsN_st hp 8 i (by omega), bitsM_st hp 8 i (by omega)]
theorem wf32 {a : Int} (h : (Lit.int .u32 a).wf = true) : ∃ n : Nat, a = (n : Int) ∧ n < 4294967296 := by
  have e0 : IntKind.u32.min = 0 := by decide
  have e1 : IntKind.u32.max = 4294967295 := by decide
  simp only [Lit.wf, Bool.and_eq_true, decide_eq_true_eq, e0, e1] at h
  exact ⟨a.toNat, by omega, by omega⟩
theorem small_ev : Ev (fun k => decklelaw02_small.f k) true :=
  ⟨100, fun k hk => at_rounds (g := fun k => decklelaw02_small.f k) (fun k => decklelaw02_small.mono k) hk (by decide +kernel)⟩

/-! ### sums, by a table -/
def Wt (t : List Int) : Prop := ∀ i : Nat, i < 256 → (Lit.int .u32 (rd t (i : Int))).wf = true
def T (t : List Int) (i : Nat) : Nat := (rd t (i : Int)).toNat
theorem T_rd {t : List Int} (h : Wt t) {i : Nat} (hi : i < 256) : rd t (i : Int) = (T t i : Int) ∧ T t i < 4294967296 := by
  obtain ⟨n, e, hn⟩ := wf32 (h i hi)
  unfold T
  rw [e, Int.toNat_natCast]
  exact ⟨rfl, hn⟩
def By (l : List Int) : Prop := ∀ y ∈ l, 0 ≤ y ∧ y ≤ 255
theorem By.rd {l : List Int} (h : By l) {i : Nat} (hi : i < l.length) : ∃ c : Nat, rd l (i : Int) = (c : Int) ∧ c < 256 ∧ l[i] = (c : Int) := by
  have := h l[i] (List.getElem_mem _)
  refine ⟨(l[i]).toNat, ?_, by omega, by omega⟩
  rw [rd_at l i hi]; omega
def stepT (t : List Int) (s : Nat) (c : Int) : Nat := (s / 256) ^^^ T t ((s % 256) ^^^ c.toNat)
def reg (t : List Int) (s : Nat) (l : List Int) : Nat := l.foldl (stepT t) s
theorem xor_lt256 {a b : Nat} (ha : a < 256) (hb : b < 256) : a ^^^ b < 256 := Nat.xor_lt_two_pow (n := 8) ha hb
theorem stepT_lt {t : List Int} (ht : Wt t) {s : Nat} {c : Int} (hs : s < 4294967296) (hc : 0 ≤ c ∧ c ≤ 255) : stepT t s c < 4294967296 := by
  unfold stepT
  exact Nat.xor_lt_two_pow (n := 32) (by omega) (T_rd ht (xor_lt256 (by omega) (by omega))).2
theorem reg_lt {t : List Int} (ht : Wt t) : ∀ (l : List Int) (s : Nat), By l → s < 4294967296 → reg t s l < 4294967296 := by
  intro l
  induction l with
  | nil => intro s _ hs; exact hs
  | cons c l ih => intro s hl hs; exact ih _ (fun y hy => hl y (List.mem_cons_of_mem _ hy)) (stepT_lt ht hs (hl c List.mem_cons_self))
theorem reg_append (t : List Int) (s : Nat) (a b : List Int) : reg t s (a ++ b) = reg t (reg t s a) b := List.foldl_append
theorem step_int {t : List Int} (ht : Wt t) {s c : Nat} (hs : s < 4294967296) (hc : c < 256) :
    Go.bits .xor .u8 ((s : Int) % 256) (c : Int) = (((s % 256) ^^^ c : Nat) : Int) ∧ (s % 256) ^^^ c < 256 ∧
    Go.bits .xor .u32 ((s : Int) / 256) (rd t (((s % 256) ^^^ c : Nat) : Int)) = (stepT t s (c : Int) : Int) := by
  have h1 : (s % 256) ^^^ c < 256 := xor_lt256 (by omega) hc
  have h2 := T_rd ht h1
  refine ⟨?_, h1, ?_⟩
  · have := xor8 (s % 256) c (by omega) hc
    rw [← this]; rfl
  · rw [h2.1]
    have := xor32 (s / 256) (T t ((s % 256) ^^^ c)) (by omega) h2.2
    unfold stepT
    rw [Int.toNat_natCast, ← this]; rfl
theorem rdL1_at (b : List (List Int)) (m : Nat) (h : m < b.length) : rd_L1 b (m : Int) = b[m] := by
  unfold rd_L1
  rw [List.getD_eq_getElem?_getD, Int.toNat_natCast, List.getElem?_eq_getElem h]; rfl
def M32 : Nat := 4294967295
theorem M32_lt : M32 < 4294967296 := by decide
def ntg (m s : Nat) : Nat := m ^^^ s
theorem ntg_ntg (m s : Nat) : ntg m (ntg m s) = s := by unfold ntg; rw [← Nat.xor_assoc, Nat.xor_self, Nat.zero_xor]
def nt (s : Nat) : Nat := ntg M32 s
theorem nt_lt {s : Nat} (h : s < 4294967296) : nt s < 4294967296 := Nat.xor_lt_two_pow (n := 32) M32_lt h
theorem bnot {s : Nat} (h : s < 4294967296) : Go.bits .xor .u32 4294967295 (s : Int) = (nt s : Int) := xor32 M32 s M32_lt h
theorem bnot2 {s : Nat} (h : s < 4294967296) : Go.bits .xor .u32 (s : Int) 4294967295 = (nt s : Int) := by
  have := xor32 s M32 h M32_lt
  rw [Nat.xor_comm] at this
  exact this
theorem nt_nt (s : Nat) : nt (nt s) = s := ntg_ntg M32 s
def more (t : List Int) (s : Nat) (l : List Int) : Nat := nt (reg t (nt s) l)
theorem more_lt {t : List Int} (ht : Wt t) {s : Nat} {l : List Int} (hl : By l) (hs : s < 4294967296) : more t s l < 4294967296 := nt_lt (reg_lt ht l _ hl (nt_lt hs))
theorem part_ev {t : List Int} (ht : Wt t) (x13 : List (List Int)) (x14 x15 : Int) (p : List Int) (hp : By p) (hl : p.length ≤ 1099511627776) (v : Int) : ∀ (d i s : Nat), i ≤ p.length → p.length - i = d → s < 4294967296 →
    Ev (fun k => crc_More.l0 k (reg t s (p.drop i) : Int) x13 x14 (wrap64 (x15 + 1)) t) v → Ev (fun k => crc_More.l1 k (s : Int) x13 x14 x15 p (p.length : Int) (i : Int) t) v := by
  intro d
  induction d with
  | zero =>
    intro i s h1 h2 hs hv
    rw [List.drop_eq_nil_of_le (by omega)] at hv
    refine Ev.succ ?_
    simp only [crc_More.l1, if_neg (show ¬ ((i : Int) < (p.length : Int)) by omega)]
    exact hv
  | succ d ih =>
    intro i s h1 h2 hs hv
    have hi : i < p.length := by omega
    obtain ⟨c, e1, hc, e2⟩ := hp.rd hi
    obtain ⟨q1, q2, q3⟩ := step_int ht hs hc
    rw [List.drop_eq_getElem_cons hi, e2] at hv
    refine Ev.succ ?_
    simp only [crc_More.l1, if_pos (show ((i : Int) < (p.length : Int)) by omega), if_pos (show (0 : Int) ≤ (i : Int) by omega), e1, q1, if_pos (show (0 : Int) ≤ (((s % 256) ^^^ c : Nat) : Int) by omega), if_pos (show (((s % 256) ^^^ c : Nat) : Int) < 256 by omega), q3, ix hi hl]
    exact ih (i + 1) (stepT t s (c : Int)) (by omega) (by omega) (stepT_lt ht hs (by omega)) hv
theorem parts_ev {t : List Int} (ht : Wt t) (ps : List (List Int)) (hp : ∀ p ∈ ps, By p ∧ p.length ≤ 1099511627776) (hl : ps.length ≤ 1099511627776) : ∀ (d i s : Nat), i ≤ ps.length → ps.length - i = d → s < 4294967296 →
    Ev (fun k => crc_More.l0 k (s : Int) ps (ps.length : Int) (i : Int) t) (nt (reg t s (ps.drop i).flatten) : Int) := by
  intro d
  induction d with
  | zero =>
    intro i s h1 h2 hs
    rw [List.drop_eq_nil_of_le (by omega)]
    refine Ev.succ ?_
    simp only [crc_More.l0, if_neg (show ¬ ((i : Int) < (ps.length : Int)) by omega)]
    rw [bnot hs]
    exact Ev.const _
  | succ d ih =>
    intro i s h1 h2 hs
    have hi : i < ps.length := by omega
    have hm := hp ps[i] (List.getElem_mem _)
    rw [List.drop_eq_getElem_cons hi, List.flatten_cons, reg_append]
    refine Ev.succ ?_
    simp only [crc_More.l0, if_pos (show ((i : Int) < (ps.length : Int)) by omega), if_pos (show (0 : Int) ≤ (i : Int) by omega), rdL1_at ps i hi]
    refine part_ev ht ps (ps.length : Int) (i : Int) ps[i] hm.1 hm.2 _ ps[i].length 0 s (by omega) (by omega) hs ?_
    rw [List.drop_zero, ix hi hl]
    exact ih (i + 1) _ (by omega) (by omega) (reg_lt ht _ s hm.1 hs)
theorem more_ev {t : List Int} (ht : Wt t) (s : Nat) (hs : s < 4294967296) (ps : List (List Int)) (hp : ∀ p ∈ ps, By p ∧ p.length ≤ 1099511627776) (hl : ps.length ≤ 1099511627776) : Ev (fun k => crc_More.f k t (s : Int) ps) (more t s ps.flatten : Int) := by
  simp only [crc_More.f]
  rw [bnot hs]
  exact parts_ev ht ps hp hl ps.length 0 (nt s) (by omega) (by omega) (nt_lt hs)
theorem sum_ev {t : List Int} (ht : Wt t) (ps : List (List Int)) (hp : ∀ p ∈ ps, By p ∧ p.length ≤ 1099511627776) (hl : ps.length ≤ 1099511627776) : Ev (fun k => crc_Sum.f k t ps) (more t 0 ps.flatten : Int) := by
  simp only [crc_Sum.f]
  exact Ev.bind (more_ev ht 0 (by omega) ps hp hl) (Ev.const _)
theorem cat1_ev (ps : List (List Int)) (hl : ps.length ≤ 1099511627776) : ∀ d i (x : List Int), i ≤ ps.length → ps.length - i = d → x.length + (ps.drop i).flatten.length ≤ 1000000000000 → Ev (fun k => slices_Concat_byte_byte.l1 k x ps (ps.length : Int) (i : Int)) (x ++ (ps.drop i).flatten) := by
  intro d
  induction d with
  | zero =>
    intro i x h1 h2 h3
    rw [List.drop_eq_nil_of_le (show ps.length ≤ i by omega), List.flatten_nil, List.append_nil]
    refine Ev.succ ?_
    simp only [slices_Concat_byte_byte.l1, if_neg (show ¬ ((i : Int) < (ps.length : Int)) by omega)]
    exact Ev.const _
  | succ d ih =>
    intro i x h1 h2 h3
    have hi : i < ps.length := by omega
    rw [List.drop_eq_getElem_cons hi, List.flatten_cons] at h3 ⊢
    rw [List.length_append] at h3
    refine Ev.succ ?_
    simp only [slices_Concat_byte_byte.l1, if_pos (show ((i : Int) < (ps.length : Int)) by omega), if_pos (show (0 : Int) ≤ (i : Int) by omega), rdL1_at ps i hi, ix hi hl, if_pos (show x.length + ps[i].length < 140737488355328 by omega)]
    rw [← List.append_assoc]
    exact ih (i + 1) (x ++ ps[i]) (by omega) (by omega) (by rw [List.length_append]; omega)
theorem cat0_ev (ps : List (List Int)) (hl : ps.length ≤ 1099511627776) (hf : ps.flatten.length ≤ 1000000000000) : ∀ d i (x : Int), i ≤ ps.length → ps.length - i = d → 0 ≤ x → x + ((ps.drop i).flatten.length : Int) ≤ 1000000000000 → Ev (fun k => slices_Concat_byte_byte.l0 k ps x ps (ps.length : Int) (i : Int)) ps.flatten := by
  intro d
  induction d with
  | zero =>
    intro i x h1 h2 h3 h4
    refine Ev.succ ?_
    simp only [slices_Concat_byte_byte.l0, if_neg (show ¬ ((i : Int) < (ps.length : Int)) by omega), slices_Grow_byte_byte.f, if_pos (show 0 ≤ x ∧ x.toNat * 1 ≤ 140737488355328 by omega)]
    refine Ev.bind (Ev.const _) ?_
    have := cat1_ev ps hl ps.length 0 [] (by omega) (by omega) (by simp only [List.length_nil, List.drop_zero]; omega)
    rw [List.nil_append, List.drop_zero] at this
    exact this
  | succ d ih =>
    intro i x h1 h2 h3 h4
    have hi : i < ps.length := by omega
    rw [List.drop_eq_getElem_cons hi, List.flatten_cons, List.length_append] at h4
    have hw : wrap64 (x + (ps[i].length : Int)) = x + (ps[i].length : Int) := w64 (by omega) (by omega)
    refine Ev.succ ?_
    simp only [slices_Concat_byte_byte.l0, if_pos (show ((i : Int) < (ps.length : Int)) by omega), if_pos (show (0 : Int) ≤ (i : Int) by omega), rdL1_at ps i hi, ix hi hl, hw, if_neg (show ¬ (x + (ps[i].length : Int) < 0) by omega)]
    exact ih (i + 1) _ (by omega) (by omega) (by omega) (by omega)
theorem cat_ev (ps : List (List Int)) (hl : ps.length ≤ 1099511627776) (hf : ps.flatten.length ≤ 1000000000000) : Ev (fun k => slices_Concat_byte_byte.f k ps) ps.flatten := by
  simp only [slices_Concat_byte_byte.f]
  exact cat0_ev ps hl hf ps.length 0 0 (by omega) (by omega) (by omega) (by rw [List.drop_zero]; omega)
/-- The four bytes of a sum. -/
def four (n : Nat) : List Int := [(n : Int) % 256, (n : Int) / 256 % 256, (n : Int) / 65536 % 256, (n : Int) / 16777216 % 256]
theorem four_len (n : Nat) : (four n).length = 4 := rfl
def sealed (t : List Int) (l : List Int) : List Int := l ++ four (more t 0 l)
theorem seal_len (t l : List Int) : (sealed t l).length = l.length + 4 := by unfold sealed; rw [List.length_append, four_len]
theorem seal_ev {t : List Int} (ht : Wt t) (ps : List (List Int)) (hp : ∀ p ∈ ps, By p ∧ p.length ≤ 1099511627776) (hl : ps.length ≤ 1099511627776) (hf : ps.flatten.length ≤ 1000000000000) : Ev (fun k => crc_Seal.f k t ps) (sealed t ps.flatten) := by
  simp only [crc_Seal.f]
  refine Ev.bind (sum_ev ht ps hp hl) (Ev.bind (cat_ev ps hl hf) ?_)
  refine Ev.bind (Ev.const _) ?_
  rw [if_pos (by simp only [List.length_cons, List.length_nil]; omega)]
  exact Ev.const _
theorem clone_some (l : List Int) (h : l.length ≤ 1000000000000) : slices_Clone_byte_byte.f l = some l := by
  unfold slices_Clone_byte_byte.f
  simp only [Option.bind_some, List.length_nil, List.nil_append]
  rw [if_pos (by omega)]
noncomputable def opn (t : List Int) (l : List Int) : List Int × Bool := if l.length < 4 then ([], false) else if (strOfNums (sealed t (l.take (l.length - 4)))).toList = (strOfNums l).toList then (l.take (l.length - 4), true) else ([], false)
theorem take_by {l : List Int} (h : By l) (n : Nat) : By (l.take n) := fun y hy => h y (List.mem_of_mem_take hy)
theorem one_part {l : List Int} (h : By l) (hl : l.length ≤ 1099511627776) : ∀ p ∈ [l], By p ∧ p.length ≤ 1099511627776 := fun p hp => by obtain rfl := List.mem_singleton.1 hp; exact ⟨h, hl⟩
theorem open_ev {t : List Int} (ht : Wt t) (l : List Int) (h : By l) (hl : l.length ≤ 900000000000) : Ev (fun k => crc_Open.f k t l) (opn t l) := by
  unfold opn
  by_cases h4 : l.length < 4
  · have hw : wrap64 ((l.length : Int) - 4) = (l.length : Int) - 4 := w64 (by omega) (by omega)
    simp only [crc_Open.f, hw, if_pos (show ((l.length : Int) - 4) < 0 by omega), if_pos h4]
    exact Ev.const _
  · have hw : wrap64 ((l.length : Int) - 4) = ((l.length - 4 : Nat) : Int) := by rw [w64 (by omega) (by omega)]; omega
    simp only [crc_Open.f, hw, if_neg (show ¬ (((l.length - 4 : Nat) : Int) < 0) by omega), if_neg h4, if_pos (show (0 : Int) ≤ ((l.length - 4 : Nat) : Int) by omega), if_pos (show ((l.length - 4 : Nat) : Int) ≤ (l.length : Int) by omega), Int.toNat_natCast]
    have htl : (l.take (l.length - 4)).length ≤ 900000000000 := by rw [List.length_take]; omega
    have hs := seal_ev ht [l.take (l.length - 4)] (one_part (take_by h _) (by omega)) (by simp) (by simp only [List.flatten_cons, List.flatten_nil, List.append_nil]; omega)
    simp only [List.flatten_cons, List.flatten_nil, List.append_nil] at hs
    refine Ev.bind hs ?_
    unfold bytes_Equal.f
    refine Ev.bind (Ev.const _) ?_
    by_cases e : (strOfNums (sealed t (l.take (l.length - 4)))).toList = (strOfNums l).toList
    · simp only [e, BEq.rfl, if_true]
      rw [clone_some _ (by omega)]
      exact Ev.bind (Ev.const _) (Ev.const _)
    · have : ((strOfNums (sealed t (l.take (l.length - 4)))).toList == (strOfNums l).toList) = false := beq_eq_false_iff_ne.mpr e
      simp only [this, if_neg e, Bool.false_eq_true, if_false]
      exact Ev.const _
theorem opn_seal (t l : List Int) : opn t (sealed t l) = (l, true) := by
  have hn : (sealed t l).take ((sealed t l).length - 4) = l := by
    rw [seal_len, Nat.add_sub_cancel]
    unfold sealed
    exact List.take_left' rfl
  unfold opn
  rw [if_neg (by rw [seal_len]; omega), hn, if_pos rfl]
theorem four_by (n : Nat) : By (four n) := by
  intro y hy
  unfold four at hy
  simp only [List.mem_cons, List.not_mem_nil, or_false] at hy
  rcases hy with rfl | rfl | rfl | rfl <;> omega
theorem seal_by {t l : List Int} (h : By l) : By (sealed t l) := by
  intro y hy
  unfold sealed at hy
  rcases List.mem_append.1 hy with h1 | h1
  · exact h y h1
  · exact four_by _ y h1

/-! ### sums as numbers: the register behind all bytes is what 8 n steps make of it and of their number -/
theorem st_xor (p a b : Nat) : st p (a ^^^ b) = st p a ^^^ st p b := by
  unfold st
  have h1 : (a ^^^ b) / 2 = (a / 2) ^^^ (b / 2) := by
    apply Nat.eq_of_testBit_eq
    intro i
    simp only [Nat.testBit_xor, Nat.testBit_div_two]
  have h2 : (a ^^^ b) % 2 = (a % 2) ^^^ (b % 2) := Nat.xor_mod_two_pow (a := a) (b := b) (n := 1)
  rw [h1, h2]
  generalize a / 2 = x
  generalize b / 2 = y
  rcases Nat.mod_two_eq_zero_or_one a with e | e <;> rcases Nat.mod_two_eq_zero_or_one b with f | f <;> rw [e, f]
  · simp
  · simp [Nat.xor_assoc]
  · simp only [show (1 ^^^ 0 : Nat) = 1 from rfl, if_true, show ¬ ((0 : Nat) = 1) by omega, if_false, Nat.xor_zero]
    rw [Nat.xor_assoc, Nat.xor_comm y p, ← Nat.xor_assoc]
  · simp only [show (1 ^^^ 1 : Nat) = 0 from rfl, if_true, show ¬ ((0 : Nat) = 1) by omega, if_false, Nat.xor_zero]
    rw [Nat.xor_assoc, ← Nat.xor_assoc p y p, Nat.xor_comm p y, Nat.xor_assoc y p p, Nat.xor_self, Nat.xor_zero]
theorem stN_xor (p : Nat) : ∀ (k a b : Nat), stN p k (a ^^^ b) = stN p k a ^^^ stN p k b := by
  intro k
  induction k with
  | zero => intro a b; rfl
  | succ k ih => intro a b; show stN p k (st p (a ^^^ b)) = _; rw [st_xor]; exact ih _ _
theorem stN_add (p : Nat) : ∀ (a b n : Nat), stN p (a + b) n = stN p b (stN p a n) := by
  intro a
  induction a with
  | zero => intro b n; rw [Nat.zero_add]; rfl
  | succ a ih => intro b n; rw [Nat.add_right_comm]; show stN p (a + b) (st p n) = _; exact ih b _
theorem st_even (p m : Nat) : st p (2 * m) = m := by
  unfold st
  rw [if_neg (by omega), Nat.xor_zero]; omega
theorem stN_shift (p : Nat) : ∀ (k m : Nat), stN p k (2 ^ k * m) = m := by
  intro k
  induction k with
  | zero => intro m; show 2 ^ 0 * m = m; rw [Nat.pow_zero, Nat.one_mul]
  | succ k ih =>
    intro m
    show stN p k (st p (2 ^ (k + 1) * m)) = m
    rw [show 2 ^ (k + 1) * m = 2 * (2 ^ k * m) by rw [Nat.pow_succ, Nat.mul_assoc, Nat.mul_left_comm], st_even]
    exact ih m
theorem split8 (n : Nat) : (256 * (n / 256)) ^^^ (n % 256) = n := by
  apply Nat.eq_of_testBit_eq
  intro i
  have h1 : (256 * (n / 256)).testBit i = (decide (i ≥ 8) && n.testBit i) := by
    have := Nat.testBit_two_pow_mul (i := 8) (a := n / 256) (j := i)
    rw [show (2 ^ 8 : Nat) = 256 from rfl] at this
    rw [this]
    by_cases h : i ≥ 8
    · have h2 := Nat.testBit_div_two_pow (x := n) (n := 8) (i := i - 8)
      rw [show (2 ^ 8 : Nat) = 256 from rfl] at h2
      rw [h2]
      congr 2
      omega
    · rw [decide_eq_false h]; rfl
  have h2 : (n % 256).testBit i = (decide (i < 8) && n.testBit i) := Nat.testBit_mod_two_pow n 8 i
  rw [Nat.testBit_xor, h1, h2]
  by_cases h : i < 8
  · rw [decide_eq_false (show ¬ i ≥ 8 by omega), decide_eq_true h]; simp
  · rw [decide_eq_true (show i ≥ 8 by omega), decide_eq_false h]; simp
/-- The table of a polynomial. -/
noncomputable def tb (p : Nat) : List Int := tabOf (bitsN (p : Int) 8)
theorem tb_rd {p : Nat} (hp : p < 4294967296) {i : Nat} (hi : i < 256) : rd (tb p) (i : Int) = (stN p 8 i : Int) := by
  unfold tb tabOf rd
  rw [List.getD_eq_getElem?_getD, Int.toNat_natCast, List.getElem?_map, List.getElem?_range hi]
  exact bitsN_st hp 8 i (by omega)
theorem wf_of32 {n : Nat} (h : n < 4294967296) : (Lit.int .u32 (n : Int)).wf = true := by
  have e0 : IntKind.u32.min = 0 := by decide
  have e1 : IntKind.u32.max = 4294967295 := by decide
  simp only [Lit.wf, Bool.and_eq_true, decide_eq_true_eq, e0, e1]
  omega
theorem tb_wt {p : Nat} (hp : p < 4294967296) : Wt (tb p) := by
  intro i hi
  rw [tb_rd hp hi]
  exact wf_of32 (stN_lt hp 8 i (by omega))
theorem tb_step {p : Nat} (hp : p < 4294967296) {s c : Nat} (hs : s < 4294967296) (hc : c < 256) : stepT (tb p) s (c : Int) = stN p 8 (s ^^^ c) := by
  have hx : (s % 256) ^^^ c < 256 := xor_lt256 (by omega) hc
  unfold stepT T
  rw [Int.toNat_natCast, tb_rd hp hx, Int.toNat_natCast]
  have h1 : s ^^^ c = (256 * (s / 256)) ^^^ ((s % 256) ^^^ c) := by rw [← Nat.xor_assoc, split8]
  rw [h1, stN_xor p 8 (256 * (s / 256))]
  have := stN_shift p 8 (s / 256)
  rw [show (2 ^ 8 : Nat) = 256 from rfl] at this
  rw [this]
/-- Bytes as a number, the first one lowest. -/
def num : List Int → Nat
  | [] => 0
  | c :: l => c.toNat ^^^ (256 * num l)
theorem reg_num {p : Nat} (hp : p < 4294967296) : ∀ (l : List Int) (s : Nat), By l → s < 4294967296 → reg (tb p) s l = stN p (8 * l.length) (s ^^^ num l) := by
  intro l
  induction l with
  | nil => intro s _ _; simp only [num, List.length_nil, Nat.xor_zero]; rfl
  | cons c l ih =>
    intro s hl hs
    have hc := hl c List.mem_cons_self
    obtain ⟨m, rfl⟩ : ∃ m : Nat, c = (m : Int) := ⟨c.toNat, by omega⟩
    have hm : m < 256 := by omega
    show reg (tb p) (stepT (tb p) s (m : Int)) l = _
    have hlt : stepT (tb p) s (m : Int) < 4294967296 := stepT_lt (tb_wt hp) hs hc
    rw [ih _ (fun y hy => hl y (List.mem_cons_of_mem _ hy)) hlt, tb_step hp hs hm]
    rw [List.length_cons, show 8 * (l.length + 1) = 8 + 8 * l.length by omega, stN_add]
    congr 1
    simp only [num, Int.toNat_natCast]
    rw [← Nat.xor_assoc, stN_xor p 8 (s ^^^ m)]
    have := stN_shift p 8 (num l)
    rw [show (2 ^ 8 : Nat) = 256 from rfl] at this
    rw [this]
theorem st_zero {p n : Nat} (hp : 2147483648 ≤ p) (hp2 : p < 4294967296) (hn : n < 4294967296) (h : st p n = 0) : n = 0 := by
  unfold st at h
  rcases Nat.mod_two_eq_zero_or_one n with e | e
  · rw [if_neg (by omega), Nat.xor_zero] at h; omega
  · rw [if_pos e] at h
    have h1 : (n / 2).testBit 31 = false := Nat.testBit_lt_two_pow (show n / 2 < 2 ^ 31 by omega)
    have h2 : p.testBit 31 = true := by
      rw [Nat.testBit_eq_decide_div_mod_eq]
      exact decide_eq_true (by omega)
    have h3 := congrArg (fun x => Nat.testBit x 31) h
    simp only [Nat.testBit_xor, h1, h2, Nat.zero_testBit] at h3
    exact absurd h3 (by decide)
theorem stN_zero {p : Nat} (hp : 2147483648 ≤ p) (hp2 : p < 4294967296) : ∀ (k n : Nat), n < 4294967296 → stN p k n = 0 → n = 0 := by
  intro k
  induction k with
  | zero => intro n _ h; exact h
  | succ k ih => intro n hn h; exact st_zero hp hp2 hn (ih _ (st_lt hp2 hn) h)

/-- A bit of a byte is turned: its bit in the number is turned. -/
theorem num_set (p : Nat) : ∀ (l : List Int) (j : Nat) (c : Nat), j < l.length → By l → p < 8 → (c : Int) = l.getD j 0 → num (l.set j ((c ^^^ 2 ^ p : Nat) : Int)) = num l ^^^ 2 ^ (8 * j + p) := by
  intro l
  induction l with
  | nil => intro j c hj; simp at hj
  | cons x l ih =>
    intro j c hj hl hp hc
    cases j with
    | zero =>
      simp only [List.getD_cons_zero] at hc
      rw [← hc]
      simp only [List.set_cons_zero, num, Int.toNat_natCast, Nat.mul_zero, Nat.zero_add]
      rw [Nat.xor_assoc, Nat.xor_assoc, Nat.xor_comm (2 ^ p)]
    | succ j =>
      simp only [List.getD_cons_succ] at hc
      simp only [List.set_cons_succ, num]
      rw [ih j c (by simp only [List.length_cons] at hj; omega) (fun y hy => hl y (List.mem_cons_of_mem _ hy)) hp hc]
      have h1 : 256 * (num l ^^^ 2 ^ (8 * j + p)) = (256 * num l) ^^^ 2 ^ (8 * (j + 1) + p) := by
        have h2 : 2 ^ (8 * (j + 1) + p) = 256 * 2 ^ (8 * j + p) := by
          rw [show 8 * (j + 1) + p = 8 + (8 * j + p) by omega, Nat.pow_add]
        rw [h2]
        apply Nat.eq_of_testBit_eq
        intro i
        have e : ∀ z : Nat, (256 * z).testBit i = (decide (i ≥ 8) && z.testBit (i - 8)) := fun z => by
          have := Nat.testBit_two_pow_mul (i := 8) (a := z) (j := i)
          rw [show (2 ^ 8 : Nat) = 256 from rfl] at this
          exact this
        rw [Nat.testBit_xor, e, e, e, Nat.testBit_xor]
        cases decide (i ≥ 8) <;> simp
      rw [h1, ← Nat.xor_assoc]
/-- The first i bits of a turn, laid at their place. -/
def turn (m at_ i : Nat) : Nat := 2 ^ at_ * (m % 2 ^ i)
theorem turn_succ (m at_ i : Nat) : turn m at_ (i + 1) = if m.testBit i = true then turn m at_ i ^^^ 2 ^ (at_ + i) else turn m at_ i := by
  have e : ∀ z k : Nat, (2 ^ at_ * z).testBit k = (decide (k ≥ at_) && z.testBit (k - at_)) := fun z k => Nat.testBit_two_pow_mul
  by_cases h : m.testBit i = true
  · rw [if_pos h]
    apply Nat.eq_of_testBit_eq
    intro k
    unfold turn
    rw [Nat.testBit_xor, e, e, Nat.testBit_mod_two_pow, Nat.testBit_mod_two_pow, Nat.testBit_two_pow]
    by_cases g : k ≥ at_
    · rw [decide_eq_true g]
      by_cases f : k - at_ < i
      · rw [decide_eq_true (show k - at_ < i + 1 by omega), decide_eq_true f, decide_eq_false (show ¬ at_ + i = k by omega)]; try simp
      · rw [decide_eq_false f]
        by_cases f2 : k - at_ = i
        · rw [decide_eq_true (show k - at_ < i + 1 by omega), decide_eq_true (show at_ + i = k by omega), f2, h]; rfl
        · rw [decide_eq_false (show ¬ k - at_ < i + 1 by omega), decide_eq_false (show ¬ at_ + i = k by omega)]; rfl
    · rw [decide_eq_false g, decide_eq_false (show ¬ at_ + i = k by omega)]; rfl
  · rw [if_neg h]
    have h0 : m.testBit i = false := Bool.eq_false_iff.2 h
    apply Nat.eq_of_testBit_eq
    intro k
    unfold turn
    rw [e, e, Nat.testBit_mod_two_pow, Nat.testBit_mod_two_pow]
    by_cases g : k ≥ at_
    · rw [decide_eq_true g]
      by_cases f : k - at_ < i
      · rw [decide_eq_true (show k - at_ < i + 1 by omega), decide_eq_true f]
      · by_cases f2 : k - at_ = i
        · rw [f2, h0]; simp
        · rw [decide_eq_false f, decide_eq_false (show ¬ k - at_ < i + 1 by omega)]
    · rw [decide_eq_false g]; rfl
/-- Two rows of bytes that are unlike in a turn have unlike sums. -/
theorem unlike {p : Nat} (hp : 2147483648 ≤ p) (hp2 : p < 4294967296) (a b : List Int) (ha : By a) (hb : By b) (hl : a.length = b.length) (m at_ : Nat) (hm : m < 4294967296) (hm0 : m ≠ 0) (hat : at_ + 32 ≤ 8 * b.length) (h : num a = num b ^^^ turn m at_ 32) : more (tb p) 0 a ≠ more (tb p) 0 b := by
  intro e
  have h1 : reg (tb p) (nt 0) a = reg (tb p) (nt 0) b := by
    have := congrArg nt e
    unfold more at this
    rwa [nt_nt, nt_nt] at this
  rw [reg_num hp2 a _ ha (nt_lt (by omega)), reg_num hp2 b _ hb (nt_lt (by omega)), hl, h, ← Nat.xor_assoc, stN_xor p _ (nt 0 ^^^ num b)] at h1
  have h2 : stN p (8 * b.length) (turn m at_ 32) = 0 := by
    have := congrArg (fun z => stN p (8 * b.length) (nt 0 ^^^ num b) ^^^ z) h1
    rw [← Nat.xor_assoc, Nat.xor_self, Nat.zero_xor] at this
    exact this
  have h3 : turn m at_ 32 = 2 ^ at_ * m := by unfold turn; rw [Nat.mod_eq_of_lt (show m < 2 ^ 32 from hm)]
  rw [h3, show 8 * b.length = at_ + (8 * b.length - at_) by omega, stN_add, stN_shift] at h2
  exact hm0 (stN_zero hp hp2 _ m hm h2)
theorem and1 {n : Nat} (h : n < 4294967296) : Go.bits .and .u32 (n : Int) 1 = ((n % 2 : Nat) : Int) := by
  have := and32 n 1 h (by omega)
  rw [Nat.and_one_is_mod] at this
  exact this
theorem set_by {l : List Int} (h : By l) {v : Int} (hv : 0 ≤ v ∧ v ≤ 255) (j : Nat) : By (l.set j v) := by
  intro y hy
  rcases List.mem_or_eq_of_mem_set hy with h1 | h1
  · exact h y h1
  · rw [h1]; exact hv
theorem shr_mask (m i : Nat) (hm : m < 4294967296) (hi : i < 32) : Go.bits .and .u32 (shr .u32 (m : Int) (i : Int)) 1 = if m.testBit i = true then 1 else 0 := by
  have h1 : shr .u32 (m : Int) (i : Int) = ((m / 2 ^ i : Nat) : Int) := by
    unfold shr
    rw [Int.toNat_natCast, show min i IntKind.u32.bits = i from Nat.min_eq_left (by show i ≤ 32; omega)]
    simp
  have h2 : m / 2 ^ i < 4294967296 := Nat.lt_of_le_of_lt (Nat.div_le_self _ _) hm
  rw [h1, and1 h2, Nat.testBit_eq_decide_div_mod_eq]
  rcases Nat.mod_two_eq_zero_or_one (m / 2 ^ i) with e | e
  · rw [e]; rfl
  · rw [e]; rfl
theorem pow8 {r : Nat} (hr : r < 8) : 2 ^ r < 256 := by
  have := Nat.pow_lt_pow_right (a := 2) (by omega) hr
  exact this
theorem shl_bit (r : Nat) (hr : r < 8) : shl .u8 1 (r : Int) = ((2 ^ r : Nat) : Int) := by
  unfold shl
  rw [Int.toNat_natCast, show min r IntKind.u8.bits = r from Nat.min_eq_left (by show r ≤ 8; omega), Int.one_mul, IntKind.wrap_u8]
  have := pow8 hr
  have e : (2 : Int) ^ r = ((2 ^ r : Nat) : Int) := by simp
  rw [e]
  generalize (2 : Nat) ^ r = z at this ⊢
  omega
theorem turn_zero (m at_ : Nat) : turn m at_ 0 = 0 := by unfold turn; rw [Nat.pow_zero, Nat.mod_one, Nat.mul_zero]
theorem at_idx (a i n : Nat) (hi : i < 32) (h : a + 32 ≤ 8 * n) (hn : n ≤ 1000) : wrap64 ((a : Int) + (i : Int)) = ((a + i : Nat) : Int) ∧ wrap64 (Int.tdiv ((a + i : Nat) : Int) 8) = (((a + i) / 8 : Nat) : Int) ∧ Int.tmod ((a + i : Nat) : Int) 8 = (((a + i) % 8 : Nat) : Int) ∧ (a + i) / 8 < n ∧ (a + i) % 8 < 8 ∧ 8 * ((a + i) / 8) + (a + i) % 8 = a + i := by
  refine ⟨by rw [w64 (by omega) (by omega)]; omega, by rw [Int.tdiv_eq_ediv_of_nonneg (by omega), w64 (by omega) (by omega)]; omega, by rw [Int.tmod_eq_emod_of_nonneg (by omega)]; omega, by omega, by omega, by omega⟩
theorem unlike_loop {p : Nat} (hp : 2147483648 ≤ p) (hp2 : p < 4294967296) (b : List Int) (hb : By b) (hbl : b.length ≤ 1000) (m at_ : Nat) (hm : m < 4294967296) (hm0 : m ≠ 0) (hat : at_ + 32 ≤ 8 * b.length) : ∀ (d i : Nat) (x : List Int), i ≤ 32 → 32 - i = d → By x → x.length = b.length → num x = num b ^^^ turn m at_ i →
    Ev (fun k => decklelaw02_CrcUnlike.l0 k b (p : Int) (at_ : Int) (m : Int) true x (i : Int)) true := by
  intro d
  induction d with
  | zero =>
    intro i x h1 h2 hx hl hn
    obtain rfl : i = 32 := by omega
    refine Ev.succ ?_
    simp only [decklelaw02_CrcUnlike.l0, if_neg (show ¬ (((32 : Nat) : Int) < 32) by omega), if_true]
    refine Ev.bind (u := tb p) (Ev.const _) ?_
    have s1 := sum_ev (tb_wt hp2) [x] (one_part hx (by omega)) (by simp)
    have s2 := sum_ev (tb_wt hp2) [b] (one_part hb (by omega)) (by simp)
    simp only [List.flatten_cons, List.flatten_nil, List.append_nil] at s1 s2
    refine Ev.bind s1 (Ev.bind s2 ?_)
    have hne := unlike hp hp2 x b hx hb hl m at_ hm hm0 hat hn
    have : (((more (tb p) 0 x : Nat) : Int) != ((more (tb p) 0 b : Nat) : Int)) = true := bne_iff_ne.mpr (by omega)
    rw [this]
    exact Ev.const _
  | succ d ih =>
    intro i x h1 h2 hx hl hn
    have hi : i < 32 := by clear hn ih; omega
    obtain ⟨hw, hq, hr, hj, hr8, hji⟩ := at_idx at_ i b.length hi hat hbl
    rw [← hl] at hj
    have hts := turn_succ m at_ i
    refine Ev.succ ?_
    by_cases g : m.testBit i = true
    · rw [if_pos g] at hts
      obtain ⟨c, e1, hc, e2⟩ := hx.rd hj
      have hp8 := pow8 hr8
      have hv : Go.bits .xor .u8 (c : Int) (((2 ^ ((at_ + i) % 8) : Nat)) : Int) = ((c ^^^ 2 ^ ((at_ + i) % 8) : Nat) : Int) := xor8 c _ hc hp8
      have hv2 : c ^^^ 2 ^ ((at_ + i) % 8) < 256 := xor_lt256 hc hp8
      have i32 : (i : Int) < 32 := Int.ofNat_lt.2 hi
      simp only [decklelaw02_CrcUnlike.l0, if_pos i32, if_pos (Int.natCast_nonneg i), shr_mask m i hm hi, if_pos g, if_true, hw, hq, hr, if_pos (Int.natCast_nonneg ((at_ + i) / 8)), if_pos (Int.ofNat_lt.2 hj), if_pos (Int.natCast_nonneg ((at_ + i) % 8)), e1, shl_bit _ hr8, hv, Int.toNat_natCast, ix hi (by omega)]
      refine ih (i + 1) _ hi (by clear hn ih hts; omega) (set_by hx (by clear hn ih hts hv hp8; omega) _) (by rw [List.length_set]; exact hl) ?_
      rw [num_set ((at_ + i) % 8) x ((at_ + i) / 8) c hj hx hr8 (by rw [List.getD_eq_getElem?_getD, List.getElem?_eq_getElem hj, e2]; rfl), hn, hts, Nat.xor_assoc, hji]
    · rw [if_neg g] at hts
      have i32 : (i : Int) < 32 := Int.ofNat_lt.2 hi
      simp only [decklelaw02_CrcUnlike.l0, if_pos i32, if_pos (Int.natCast_nonneg i), shr_mask m i hm hi, if_neg g, if_neg (show ¬ ((0 : Int) = 1) by omega), ix hi (show 32 ≤ 1099511627776 by omega)]
      exact ih (i + 1) x hi (by clear hn ih hts; omega) hx hl (by rw [hn, hts])
theorem wf64 {a : Int} (h : (Lit.int .i64 a).wf = true) : -9223372036854775808 ≤ a ∧ a ≤ 9223372036854775807 := by
  have e0 : IntKind.i64.min = -9223372036854775808 := by decide
  have e1 : IntKind.i64.max = 9223372036854775807 := by decide
  simp only [Lit.wf, Bool.and_eq_true, decide_eq_true_eq, e0, e1] at h
  exact h
theorem CrcUnlike (b : List Int) (hb : ∀ y ∈ b, 0 ≤ y ∧ y ≤ 255) (p : Int) (wp : (Lit.int .u32 p).wf = true) (at_ : Int) (wa : (Lit.int .i64 at_).wf = true) (m : Int) (wm : (Lit.int .u32 m).wf = true) : ∃ k, decklelaw02_CrcUnlike.f k b p at_ m = some true := by
  obtain ⟨p, rfl, hp2⟩ := wf32 wp
  obtain ⟨m, rfl, hm⟩ := wf32 wm
  have wa := wf64 wa
  have out : Ev (fun k => decklelaw02_CrcUnlike.j0 k b (p : Int) at_ (m : Int) true true) true := by
    refine Ev.succ ?_
    simp only [decklelaw02_CrcUnlike.j0, if_true]
    exact Ev.const _
  have main : Ev (fun k => decklelaw02_CrcUnlike.f k b (p : Int) at_ (m : Int)) true := by
    simp only [decklelaw02_CrcUnlike.f]
    refine Ev.bind small_ev ?_
    by_cases g1 : (b.length : Int) > 1000
    · simp only [if_pos g1]; exact out
    · simp only [if_neg g1]
      by_cases g2 : (p : Int) < 2147483648
      · simp only [if_pos g2]; exact out
      · simp only [if_neg g2]
        by_cases g3 : (m : Int) = 0
        · simp only [if_pos g3]; exact out
        · simp only [if_neg g3]
          by_cases g4 : at_ < 0
          · simp only [if_pos g4]; exact out
          · simp only [if_neg g4]
            have hw : wrap64 (wrap64 (8 * (b.length : Int)) - 32) = 8 * (b.length : Int) - 32 := by rw [w64 (n := 8 * (b.length : Int)) (by omega) (by omega), w64 (by omega) (by omega)]
            by_cases g5 : at_ > 8 * (b.length : Int) - 32
            · rw [hw, decide_eq_true g5]; exact out
            · rw [hw, decide_eq_false g5]
              obtain ⟨n, rfl⟩ : ∃ n : Nat, at_ = (n : Int) := ⟨at_.toNat, by omega⟩
              refine Ev.succ ?_
              simp only [decklelaw02_CrcUnlike.j0, Bool.false_eq_true, if_false]
              refine Ev.bind (Ev.const _) ?_
              simp only [List.length_nil, List.nil_append, if_pos (show 0 + b.length < 140737488355328 by omega)]
              exact unlike_loop (by omega) hp2 b hb (by omega) m n hm (by omega) (by omega) 32 0 b (by omega) (by omega) hb rfl (by rw [turn_zero, Nat.xor_zero])
  exact main.get

end Go.Proofs.Ytdoofhbapenhnaa.Pure
