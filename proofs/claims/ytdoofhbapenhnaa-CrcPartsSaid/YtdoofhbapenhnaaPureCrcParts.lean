/- It does not matter how bytes are cut into parts: for every table, all bytes, every cut. -/
import Derived.Test.YtdoofhbapenhnaaHCrcPartsx4
import Derived.KernelRfl
namespace Go.Proofs.Ytdoofhbapenhnaa.Pure
open Go.RowKit Go.Proofs.Ytdoofhbapenhnaa.HCrcParts Go.Proofs.YtdoofhbapenhnaaW.PrintWords Go.Proofs.YtdoofhbapenhnaaW.PrintLast Go.Proofs.YtdoofhbapenhnaaW.PrintMore
set_option linter.unusedVariables false
set_option linter.unusedSimpArgs false

theorem w64 {n : Int} (h1 : -9223372036854775808 ≤ n) (h2 : n ≤ 9223372036854775807) : wrap64 n = n := by unfold wrap64; omega
/-- Told from some number of rounds on. -/
def Ev {α : Type} (g : Nat → Option α) (v : α) : Prop := ∃ k0, ∀ k, k0 ≤ k → g k = some v
theorem Ev.const {α : Type} (v : α) : Ev (fun _ => some v) v := ⟨0, fun _ _ => rfl⟩
theorem Ev.bind {α β : Type} {g : Nat → Option α} {F : Nat → α → Option β} {u : α} {v : β} (h : Ev g u) (h2 : Ev (fun k => F k u) v) : Ev (fun k => (g k).bind (F k)) v := by
  obtain ⟨a, ha⟩ := h
  obtain ⟨b, hb⟩ := h2
  exact ⟨a + b, fun k hk => by show (g k).bind (F k) = some v; rw [ha k (by omega), Option.bind_some]; exact hb k (by omega)⟩
theorem Ev.succ {α : Type} {g : Nat → Option α} {v : α} (h : Ev (fun k => g (k + 1)) v) : Ev g v := by
  obtain ⟨a, ha⟩ := h
  refine ⟨a + 1, fun k hk => ?_⟩
  obtain ⟨j, rfl⟩ : ∃ j, k = j + 1 := ⟨k - 1, by omega⟩
  exact ha j (by omega)
theorem Ev.get {α : Type} {g : Nat → Option α} {v : α} (h : Ev g v) : ∃ k, g k = some v := by
  obtain ⟨a, ha⟩ := h
  exact ⟨a, ha a (Nat.le_refl _)⟩
theorem rd_at (b : List Int) (m : Nat) (h : m < b.length) : rd b (m : Int) = b[m] := by
  unfold rd
  rw [List.getD_eq_getElem?_getD, Int.toNat_natCast, List.getElem?_eq_getElem h]; rfl
theorem ix {i n : Nat} (h : i < n) (hn : n ≤ 1099511627776) : wrap64 ((i : Int) + 1) = ((i + 1 : Nat) : Int) := by rw [w64 (by omega) (by omega)]; omega
/-! ### bits -/
theorem xor32 (a b : Nat) (ha : a < 4294967296) (hb : b < 4294967296) : Go.bits .xor .u32 (a : Int) (b : Int) = ((a ^^^ b : Nat) : Int) := by
  have hx : a ^^^ b < 2 ^ 32 := Nat.xor_lt_two_pow ha hb
  have ha' : a % 2 ^ IntKind.u32.bits = a := Nat.mod_eq_of_lt ha
  have hb' : b % 2 ^ IntKind.u32.bits = b := Nat.mod_eq_of_lt hb
  simp only [Go.bits, BitVec.ofInt_natCast, BitVec.toNat_xor, BitVec.toNat_ofNat, ha', hb', IntKind.wrap_u32]
  omega
theorem and32 (a b : Nat) (ha : a < 4294967296) (hb : b < 4294967296) : Go.bits .and .u32 (a : Int) (b : Int) = ((a &&& b : Nat) : Int) := by
  have hx : a &&& b < 2 ^ 32 := Nat.and_lt_two_pow _ hb
  have ha' : a % 2 ^ IntKind.u32.bits = a := Nat.mod_eq_of_lt ha
  have hb' : b % 2 ^ IntKind.u32.bits = b := Nat.mod_eq_of_lt hb
  simp only [Go.bits, BitVec.ofInt_natCast, BitVec.toNat_and, BitVec.toNat_ofNat, ha', hb', IntKind.wrap_u32]
  omega
theorem xor8 (a b : Nat) (ha : a < 256) (hb : b < 256) : Go.bits .xor .u8 (a : Int) (b : Int) = ((a ^^^ b : Nat) : Int) := by
  have hx : a ^^^ b < 2 ^ 8 := Nat.xor_lt_two_pow ha hb
  have ha' : a % 2 ^ IntKind.u8.bits = a := Nat.mod_eq_of_lt ha
  have hb' : b % 2 ^ IntKind.u8.bits = b := Nat.mod_eq_of_lt hb
  simp only [Go.bits, BitVec.ofInt_natCast, BitVec.toNat_xor, BitVec.toNat_ofNat, ha', hb', IntKind.wrap_u8]
  omega
/-- One bit is taken. -/
def st (p n : Nat) : Nat := (n / 2) ^^^ (if n % 2 = 1 then p else 0)
def stN (p : Nat) : Nat → Nat → Nat
  | 0, n => n
  | k + 1, n => stN p k (st p n)
theorem st_lt {p n : Nat} (hp : p < 4294967296) (hn : n < 4294967296) : st p n < 4294967296 := by
  unfold st
  refine Nat.xor_lt_two_pow (n := 32) (by omega) ?_
  split
  · exact hp
  · omega
theorem stN_lt {p : Nat} (hp : p < 4294967296) : ∀ k n, n < 4294967296 → stN p k n < 4294967296 := by
  intro k
  induction k with
  | zero => intro n h; exact h
  | succ k ih => intro n h; exact ih _ (st_lt hp h)
theorem bit1_st {p n : Nat} (hp : p < 4294967296) (hn : n < 4294967296) : bit1 (p : Int) (n : Int) = (st p n : Int) := by
  unfold bit1 st
  have h1 : Go.bits .and .u32 (n : Int) 1 = ((n % 2 : Nat) : Int) := by
    have := and32 n 1 hn (by omega)
    rw [Nat.and_one_is_mod] at this
    exact this
  rw [h1]
  rcases Nat.mod_two_eq_zero_or_one n with e | e
  · rw [e, if_neg (by omega)]
    have h2 : Go.bits .and .u32 (p : Int) (-((0 : Nat) : Int) % 4294967296) = ((p &&& 0 : Nat) : Int) := and32 p 0 hp (by omega)
    rw [h2, Nat.and_zero]
    have h3 := xor32 (n / 2) 0 (by omega) (by omega)
    rw [← h3]
    rfl
  · rw [e, if_pos rfl]
    have h2 : Go.bits .and .u32 (p : Int) (-((1 : Nat) : Int) % 4294967296) = ((p &&& 4294967295 : Nat) : Int) := and32 p 4294967295 hp (by omega)
    have h4 : p &&& 4294967295 = p := by
      have := Nat.and_two_pow_sub_one_eq_mod p 32
      rw [show (2 ^ 32 - 1 : Nat) = 4294967295 from rfl] at this
      rw [this]
      exact Nat.mod_eq_of_lt hp
    rw [h2, h4]
    have h3 := xor32 (n / 2) p (by omega) hp
    rw [← h3]
    rfl
theorem bit2_st {p n : Nat} (hp : p < 4294967296) (hn : n < 4294967296) : bit2 (p : Int) (n : Int) = (st p n : Int) := by
  unfold bit2 st
  have h0 : Int.tmod (n : Int) 2 = ((n % 2 : Nat) : Int) := by rw [Int.tmod_eq_emod_of_nonneg (by omega)]; omega
  have h1 : Int.tdiv (n : Int) 2 % 4294967296 = ((n / 2 : Nat) : Int) := by rw [Int.tdiv_eq_ediv_of_nonneg (by omega)]; omega
  rw [h0, h1]
  rcases Nat.mod_two_eq_zero_or_one n with e | e
  · rw [e, if_neg (show ¬ ((0 : Nat) = 1) by omega), Nat.xor_zero]; rfl
  · rw [e, if_pos (show (1 : Nat) = 1 from rfl)]
    exact xor32 (n / 2) p (by omega) hp
theorem bitsN_st {p : Nat} (hp : p < 4294967296) : ∀ k n : Nat, n < 4294967296 → bitsN (p : Int) k (n : Int) = (stN p k n : Int) := by
  intro k
  induction k with
  | zero => intro n _; rfl
  | succ k ih => intro n h; show bitsN (p : Int) k (bit1 (p : Int) (n : Int)) = _; rw [bit1_st hp h]; exact ih _ (st_lt hp h)
theorem bitsM_st {p : Nat} (hp : p < 4294967296) : ∀ k n : Nat, n < 4294967296 → bitsM (p : Int) k (n : Int) = (stN p k n : Int) := by
  intro k
  induction k with
  | zero => intro n _; rfl
  | succ k ih => intro n h; show bitsM (p : Int) k (bit2 (p : Int) (n : Int)) = _; rw [bit2_st hp h]; exact ih _ (st_lt hp h)
theorem tab_same {p : Nat} (hp : p < 4294967296) : tabOf (bitsN (p : Int) 8) = tabOf (bitsM (p : Int) 8) := by
  unfold tabOf
  refine List.map_congr_left fun i hi => ?_
  have := List.mem_range.1 hi
  rw [bitsN_st hp 8 i (by omega), bitsM_st hp 8 i (by omega)]
theorem wf32 {a : Int} (h : (Lit.int .u32 a).wf = true) : ∃ n : Nat, a = (n : Int) ∧ n < 4294967296 := by
  have e0 : IntKind.u32.min = 0 := by decide
  have e1 : IntKind.u32.max = 4294967295 := by decide
  simp only [Lit.wf, Bool.and_eq_true, decide_eq_true_eq, e0, e1] at h
  exact ⟨a.toNat, by omega, by omega⟩
theorem small_ev : Ev (fun k => decklelaw02_small.f k) true :=
  ⟨100, fun k hk => at_rounds (g := fun k => decklelaw02_small.f k) (fun k => decklelaw02_small.mono k) hk (by decide +kernel)⟩

/-! ### sums, by a table -/
def Wt (t : List Int) : Prop := ∀ i : Nat, i < 256 → (Lit.int .u32 (rd t (i : Int))).wf = true
def T (t : List Int) (i : Nat) : Nat := (rd t (i : Int)).toNat
theorem T_rd {t : List Int} (h : Wt t) {i : Nat} (hi : i < 256) : rd t (i : Int) = (T t i : Int) ∧ T t i < 4294967296 := by
  obtain ⟨n, e, hn⟩ := wf32 (h i hi)
  unfold T
  rw [e, Int.toNat_natCast]
  exact ⟨rfl, hn⟩
def By (l : List Int) : Prop := ∀ y ∈ l, 0 ≤ y ∧ y ≤ 255
theorem By.rd {l : List Int} (h : By l) {i : Nat} (hi : i < l.length) : ∃ c : Nat, rd l (i : Int) = (c : Int) ∧ c < 256 ∧ l[i] = (c : Int) := by
  have := h l[i] (List.getElem_mem _)
  refine ⟨(l[i]).toNat, ?_, by omega, by omega⟩
  rw [rd_at l i hi]; omega
def stepT (t : List Int) (s : Nat) (c : Int) : Nat := (s / 256) ^^^ T t ((s % 256) ^^^ c.toNat)
def reg (t : List Int) (s : Nat) (l : List Int) : Nat := l.foldl (stepT t) s
theorem xor_lt256 {a b : Nat} (ha : a < 256) (hb : b < 256) : a ^^^ b < 256 := Nat.xor_lt_two_pow (n := 8) ha hb
theorem stepT_lt {t : List Int} (ht : Wt t) {s : Nat} {c : Int} (hs : s < 4294967296) (hc : 0 ≤ c ∧ c ≤ 255) : stepT t s c < 4294967296 := by
  unfold stepT
  exact Nat.xor_lt_two_pow (n := 32) (by omega) (T_rd ht (xor_lt256 (by omega) (by omega))).2
theorem reg_lt {t : List Int} (ht : Wt t) : ∀ (l : List Int) (s : Nat), By l → s < 4294967296 → reg t s l < 4294967296 := by
  intro l
  induction l with
  | nil => intro s _ hs; exact hs
  | cons c l ih => intro s hl hs; exact ih _ (fun y hy => hl y (List.mem_cons_of_mem _ hy)) (stepT_lt ht hs (hl c List.mem_cons_self))
theorem reg_append (t : List Int) (s : Nat) (a b : List Int) : reg t s (a ++ b) = reg t (reg t s a) b := List.foldl_append
theorem step_int {t : List Int} (ht : Wt t) {s c : Nat} (hs : s < 4294967296) (hc : c < 256) :
    Go.bits .xor .u8 ((s : Int) % 256) (c : Int) = (((s % 256) ^^^ c : Nat) : Int) ∧ (s % 256) ^^^ c < 256 ∧
    Go.bits .xor .u32 ((s : Int) / 256) (rd t (((s % 256) ^^^ c : Nat) : Int)) = (stepT t s (c : Int) : Int) := by
  have h1 : (s % 256) ^^^ c < 256 := xor_lt256 (by omega) hc
  have h2 := T_rd ht h1
  refine ⟨?_, h1, ?_⟩
  · have := xor8 (s % 256) c (by omega) hc
    rw [← this]; rfl
  · rw [h2.1]
    have := xor32 (s / 256) (T t ((s % 256) ^^^ c)) (by omega) h2.2
    unfold stepT
    rw [Int.toNat_natCast, ← this]; rfl
theorem rdL1_at (b : List (List Int)) (m : Nat) (h : m < b.length) : rd_L1 b (m : Int) = b[m] := by
  unfold rd_L1
  rw [List.getD_eq_getElem?_getD, Int.toNat_natCast, List.getElem?_eq_getElem h]; rfl
def M32 : Nat := 4294967295
theorem M32_lt : M32 < 4294967296 := by decide
def ntg (m s : Nat) : Nat := m ^^^ s
theorem ntg_ntg (m s : Nat) : ntg m (ntg m s) = s := by unfold ntg; rw [← Nat.xor_assoc, Nat.xor_self, Nat.zero_xor]
def nt (s : Nat) : Nat := ntg M32 s
theorem nt_lt {s : Nat} (h : s < 4294967296) : nt s < 4294967296 := Nat.xor_lt_two_pow (n := 32) M32_lt h
theorem bnot {s : Nat} (h : s < 4294967296) : Go.bits .xor .u32 4294967295 (s : Int) = (nt s : Int) := xor32 M32 s M32_lt h
theorem bnot2 {s : Nat} (h : s < 4294967296) : Go.bits .xor .u32 (s : Int) 4294967295 = (nt s : Int) := by
  have := xor32 s M32 h M32_lt
  rw [Nat.xor_comm] at this
  exact this
theorem nt_nt (s : Nat) : nt (nt s) = s := ntg_ntg M32 s
def more (t : List Int) (s : Nat) (l : List Int) : Nat := nt (reg t (nt s) l)
theorem more_lt {t : List Int} (ht : Wt t) {s : Nat} {l : List Int} (hl : By l) (hs : s < 4294967296) : more t s l < 4294967296 := nt_lt (reg_lt ht l _ hl (nt_lt hs))
theorem part_ev {t : List Int} (ht : Wt t) (x13 : List (List Int)) (x14 x15 : Int) (p : List Int) (hp : By p) (hl : p.length ≤ 1099511627776) (v : Int) : ∀ (d i s : Nat), i ≤ p.length → p.length - i = d → s < 4294967296 →
    Ev (fun k => crc_More.l0 k (reg t s (p.drop i) : Int) x13 x14 (wrap64 (x15 + 1)) t) v → Ev (fun k => crc_More.l1 k (s : Int) x13 x14 x15 p (p.length : Int) (i : Int) t) v := by
  intro d
  induction d with
  | zero =>
    intro i s h1 h2 hs hv
    rw [List.drop_eq_nil_of_le (by omega)] at hv
    refine Ev.succ ?_
    simp only [crc_More.l1, if_neg (show ¬ ((i : Int) < (p.length : Int)) by omega)]
    exact hv
  | succ d ih =>
    intro i s h1 h2 hs hv
    have hi : i < p.length := by omega
    obtain ⟨c, e1, hc, e2⟩ := hp.rd hi
    obtain ⟨q1, q2, q3⟩ := step_int ht hs hc
    rw [List.drop_eq_getElem_cons hi, e2] at hv
    refine Ev.succ ?_
    simp only [crc_More.l1, if_pos (show ((i : Int) < (p.length : Int)) by omega), if_pos (show (0 : Int) ≤ (i : Int) by omega), e1, q1, if_pos (show (0 : Int) ≤ (((s % 256) ^^^ c : Nat) : Int) by omega), if_pos (show (((s % 256) ^^^ c : Nat) : Int) < 256 by omega), q3, ix hi hl]
    exact ih (i + 1) (stepT t s (c : Int)) (by omega) (by omega) (stepT_lt ht hs (by omega)) hv
theorem parts_ev {t : List Int} (ht : Wt t) (ps : List (List Int)) (hp : ∀ p ∈ ps, By p ∧ p.length ≤ 1099511627776) (hl : ps.length ≤ 1099511627776) : ∀ (d i s : Nat), i ≤ ps.length → ps.length - i = d → s < 4294967296 →
    Ev (fun k => crc_More.l0 k (s : Int) ps (ps.length : Int) (i : Int) t) (nt (reg t s (ps.drop i).flatten) : Int) := by
  intro d
  induction d with
  | zero =>
    intro i s h1 h2 hs
    rw [List.drop_eq_nil_of_le (by omega)]
    refine Ev.succ ?_
    simp only [crc_More.l0, if_neg (show ¬ ((i : Int) < (ps.length : Int)) by omega)]
    rw [bnot hs]
    exact Ev.const _
  | succ d ih =>
    intro i s h1 h2 hs
    have hi : i < ps.length := by omega
    have hm := hp ps[i] (List.getElem_mem _)
    rw [List.drop_eq_getElem_cons hi, List.flatten_cons, reg_append]
    refine Ev.succ ?_
    simp only [crc_More.l0, if_pos (show ((i : Int) < (ps.length : Int)) by omega), if_pos (show (0 : Int) ≤ (i : Int) by omega), rdL1_at ps i hi]
    refine part_ev ht ps (ps.length : Int) (i : Int) ps[i] hm.1 hm.2 _ ps[i].length 0 s (by omega) (by omega) hs ?_
    rw [List.drop_zero, ix hi hl]
    exact ih (i + 1) _ (by omega) (by omega) (reg_lt ht _ s hm.1 hs)
theorem more_ev {t : List Int} (ht : Wt t) (s : Nat) (hs : s < 4294967296) (ps : List (List Int)) (hp : ∀ p ∈ ps, By p ∧ p.length ≤ 1099511627776) (hl : ps.length ≤ 1099511627776) : Ev (fun k => crc_More.f k t (s : Int) ps) (more t s ps.flatten : Int) := by
  simp only [crc_More.f]
  rw [bnot hs]
  exact parts_ev ht ps hp hl ps.length 0 (nt s) (by omega) (by omega) (nt_lt hs)
theorem sum_ev {t : List Int} (ht : Wt t) (ps : List (List Int)) (hp : ∀ p ∈ ps, By p ∧ p.length ≤ 1099511627776) (hl : ps.length ≤ 1099511627776) : Ev (fun k => crc_Sum.f k t ps) (more t 0 ps.flatten : Int) := by
  simp only [crc_Sum.f]
  exact Ev.bind (more_ev ht 0 (by omega) ps hp hl) (Ev.const _)
theorem cat1_ev (ps : List (List Int)) (hl : ps.length ≤ 1099511627776) : ∀ d i (x : List Int), i ≤ ps.length → ps.length - i = d → x.length + (ps.drop i).flatten.length ≤ 1000000000000 → Ev (fun k => slices_Concat_byte_byte.l1 k x ps (ps.length : Int) (i : Int)) (x ++ (ps.drop i).flatten) := by
  intro d
  induction d with
  | zero =>
    intro i x h1 h2 h3
    rw [List.drop_eq_nil_of_le (show ps.length ≤ i by omega), List.flatten_nil, List.append_nil]
    refine Ev.succ ?_
    simp only [slices_Concat_byte_byte.l1, if_neg (show ¬ ((i : Int) < (ps.length : Int)) by omega)]
    exact Ev.const _
  | succ d ih =>
    intro i x h1 h2 h3
    have hi : i < ps.length := by omega
    rw [List.drop_eq_getElem_cons hi, List.flatten_cons] at h3 ⊢
    rw [List.length_append] at h3
    refine Ev.succ ?_
    simp only [slices_Concat_byte_byte.l1, if_pos (show ((i : Int) < (ps.length : Int)) by omega), if_pos (show (0 : Int) ≤ (i : Int) by omega), rdL1_at ps i hi, ix hi hl, if_pos (show x.length + ps[i].length < 140737488355328 by omega)]
    rw [← List.append_assoc]
    exact ih (i + 1) (x ++ ps[i]) (by omega) (by omega) (by rw [List.length_append]; omega)
theorem cat0_ev (ps : List (List Int)) (hl : ps.length ≤ 1099511627776) (hf : ps.flatten.length ≤ 1000000000000) : ∀ d i (x : Int), i ≤ ps.length → ps.length - i = d → 0 ≤ x → x + ((ps.drop i).flatten.length : Int) ≤ 1000000000000 → Ev (fun k => slices_Concat_byte_byte.l0 k ps x ps (ps.length : Int) (i : Int)) ps.flatten := by
  intro d
  induction d with
  | zero =>
    intro i x h1 h2 h3 h4
    refine Ev.succ ?_
    simp only [slices_Concat_byte_byte.l0, if_neg (show ¬ ((i : Int) < (ps.length : Int)) by omega), slices_Grow_byte_byte.f, if_pos (show 0 ≤ x ∧ x.toNat * 1 ≤ 140737488355328 by omega)]
    refine Ev.bind (Ev.const _) ?_
    have := cat1_ev ps hl ps.length 0 [] (by omega) (by omega) (by simp only [List.length_nil, List.drop_zero]; omega)
    rw [List.nil_append, List.drop_zero] at this
    exact this
  | succ d ih =>
    intro i x h1 h2 h3 h4
    have hi : i < ps.length := by omega
    rw [List.drop_eq_getElem_cons hi, List.flatten_cons, List.length_append] at h4
    have hw : wrap64 (x + (ps[i].length : Int)) = x + (ps[i].length : Int) := w64 (by omega) (by omega)
    refine Ev.succ ?_
    simp only [slices_Concat_byte_byte.l0, if_pos (show ((i : Int) < (ps.length : Int)) by omega), if_pos (show (0 : Int) ≤ (i : Int) by omega), rdL1_at ps i hi, ix hi hl, hw, if_neg (show ¬ (x + (ps[i].length : Int) < 0) by omega)]
    exact ih (i + 1) _ (by omega) (by omega) (by omega) (by omega)
theorem cat_ev (ps : List (List Int)) (hl : ps.length ≤ 1099511627776) (hf : ps.flatten.length ≤ 1000000000000) : Ev (fun k => slices_Concat_byte_byte.f k ps) ps.flatten := by
  simp only [slices_Concat_byte_byte.f]
  exact cat0_ev ps hl hf ps.length 0 0 (by omega) (by omega) (by omega) (by rw [List.drop_zero]; omega)
/-- The four bytes of a sum. -/
def four (n : Nat) : List Int := [(n : Int) % 256, (n : Int) / 256 % 256, (n : Int) / 65536 % 256, (n : Int) / 16777216 % 256]
theorem four_len (n : Nat) : (four n).length = 4 := rfl
def sealed (t : List Int) (l : List Int) : List Int := l ++ four (more t 0 l)
theorem seal_len (t l : List Int) : (sealed t l).length = l.length + 4 := by unfold sealed; rw [List.length_append, four_len]
theorem seal_ev {t : List Int} (ht : Wt t) (ps : List (List Int)) (hp : ∀ p ∈ ps, By p ∧ p.length ≤ 1099511627776) (hl : ps.length ≤ 1099511627776) (hf : ps.flatten.length ≤ 1000000000000) : Ev (fun k => crc_Seal.f k t ps) (sealed t ps.flatten) := by
  simp only [crc_Seal.f]
  refine Ev.bind (sum_ev ht ps hp hl) (Ev.bind (cat_ev ps hl hf) ?_)
  refine Ev.bind (Ev.const _) ?_
  rw [if_pos (by simp only [List.length_cons, List.length_nil]; omega)]
  exact Ev.const _
theorem clone_some (l : List Int) (h : l.length ≤ 1000000000000) : slices_Clone_byte_byte.f l = some l := by
  unfold slices_Clone_byte_byte.f
  simp only [Option.bind_some, List.length_nil, List.nil_append]
  rw [if_pos (by omega)]
noncomputable def opn (t : List Int) (l : List Int) : List Int × Bool := if l.length < 4 then ([], false) else if (strOfNums (sealed t (l.take (l.length - 4)))).toList = (strOfNums l).toList then (l.take (l.length - 4), true) else ([], false)
theorem take_by {l : List Int} (h : By l) (n : Nat) : By (l.take n) := fun y hy => h y (List.mem_of_mem_take hy)
theorem one_part {l : List Int} (h : By l) (hl : l.length ≤ 1099511627776) : ∀ p ∈ [l], By p ∧ p.length ≤ 1099511627776 := fun p hp => by obtain rfl := List.mem_singleton.1 hp; exact ⟨h, hl⟩
theorem open_ev {t : List Int} (ht : Wt t) (l : List Int) (h : By l) (hl : l.length ≤ 900000000000) : Ev (fun k => crc_Open.f k t l) (opn t l) := by
  unfold opn
  by_cases h4 : l.length < 4
  · have hw : wrap64 ((l.length : Int) - 4) = (l.length : Int) - 4 := w64 (by omega) (by omega)
    simp only [crc_Open.f, hw, if_pos (show ((l.length : Int) - 4) < 0 by omega), if_pos h4]
    exact Ev.const _
  · have hw : wrap64 ((l.length : Int) - 4) = ((l.length - 4 : Nat) : Int) := by rw [w64 (by omega) (by omega)]; omega
    simp only [crc_Open.f, hw, if_neg (show ¬ (((l.length - 4 : Nat) : Int) < 0) by omega), if_neg h4, if_pos (show (0 : Int) ≤ ((l.length - 4 : Nat) : Int) by omega), if_pos (show ((l.length - 4 : Nat) : Int) ≤ (l.length : Int) by omega), Int.toNat_natCast]
    have htl : (l.take (l.length - 4)).length ≤ 900000000000 := by rw [List.length_take]; omega
    have hs := seal_ev ht [l.take (l.length - 4)] (one_part (take_by h _) (by omega)) (by simp) (by simp only [List.flatten_cons, List.flatten_nil, List.append_nil]; omega)
    simp only [List.flatten_cons, List.flatten_nil, List.append_nil] at hs
    refine Ev.bind hs ?_
    unfold bytes_Equal.f
    refine Ev.bind (Ev.const _) ?_
    by_cases e : (strOfNums (sealed t (l.take (l.length - 4)))).toList = (strOfNums l).toList
    · simp only [e, BEq.rfl, if_true]
      rw [clone_some _ (by omega)]
      exact Ev.bind (Ev.const _) (Ev.const _)
    · have : ((strOfNums (sealed t (l.take (l.length - 4)))).toList == (strOfNums l).toList) = false := beq_eq_false_iff_ne.mpr e
      simp only [this, if_neg e, Bool.false_eq_true, if_false]
      exact Ev.const _
theorem opn_seal (t l : List Int) : opn t (sealed t l) = (l, true) := by
  have hn : (sealed t l).take ((sealed t l).length - 4) = l := by
    rw [seal_len, Nat.add_sub_cancel]
    unfold sealed
    exact List.take_left' rfl
  unfold opn
  rw [if_neg (by rw [seal_len]; omega), hn, if_pos rfl]
theorem four_by (n : Nat) : By (four n) := by
  intro y hy
  unfold four at hy
  simp only [List.mem_cons, List.not_mem_nil, or_false] at hy
  rcases hy with rfl | rfl | rfl | rfl <;> omega
theorem seal_by {t l : List Int} (h : By l) : By (sealed t l) := by
  intro y hy
  unfold sealed at hy
  rcases List.mem_append.1 hy with h1 | h1
  · exact h y h1
  · exact four_by _ y h1

theorem more_more (t : List Int) (s : Nat) (a b : List Int) : more t (more t s a) b = more t s (a ++ b) := by
  unfold more
  rw [nt_nt, reg_append]
theorem more_nil (t : List Int) (s : Nat) : more t s [] = s := by
  unfold more
  exact nt_nt s
theorem mid_flat (l : List Int) (i k : Nat) (h : i ≤ k) : l.take i ++ ((l.take k).drop i ++ l.drop k) = l := by
  rw [← List.append_assoc]
  have h1 : l.take i = (l.take k).take i := by rw [List.take_take, Nat.min_eq_left h]
  rw [h1, List.take_append_drop, List.take_append_drop]
theorem drop_by {l : List Int} (h : By l) (n : Nat) : By (l.drop n) := fun y hy => h y (List.mem_of_mem_drop hy)
theorem parts_main {t : List Int} (ht : Wt t) (l : List Int) (h : By l) (hl : l.length ≤ 1000) (i k : Nat) (hik : i ≤ k) (hk : k ≤ l.length) : Ev (fun z => decklelaw02_CrcParts.j0 z l (i : Int) (k : Int) true false t) true := by
  have b1 : By (l.take i) := take_by h i
  have b2 : By ((l.take k).drop i) := drop_by (take_by h k) i
  have b3 : By (l.drop k) := drop_by h k
  have b4 : By (l.take k) := take_by h k
  have b5 : By (l.drop i) := drop_by h i
  have c1 : (l.take i).length ≤ 1000 := by rw [List.length_take]; omega
  have c2 : ((l.take k).drop i).length ≤ 1000 := by rw [List.length_drop, List.length_take]; omega
  have c3 : (l.drop k).length ≤ 1000 := by rw [List.length_drop]; omega
  have c4 : (l.take k).length ≤ 1000 := by rw [List.length_take]; omega
  have c5 : (l.drop i).length ≤ 1000 := by rw [List.length_drop]; omega
  have m0 : more t 0 l < 4294967296 := more_lt ht h (by omega)
  have m1 : more t 0 (l.take i) < 4294967296 := more_lt ht b1 (by omega)
  have m2 : more t 0 (l.take k) < 4294967296 := more_lt ht b4 (by omega)
  have big : ∀ p : List Int, By p → p.length ≤ 1000 → By p ∧ p.length ≤ 1099511627776 := fun p hp hq => ⟨hp, by omega⟩
  have bnil : By [] := fun y hy => by simp at hy
  have s1 := sum_ev ht [l] (one_part h (by omega)) (by simp)
  have s2 := seal_ev ht [l] (one_part h (by omega)) (by simp) (by simp only [List.flatten_cons, List.flatten_nil, List.append_nil]; omega)
  have s3 := sum_ev ht [l.take i] (one_part b1 (by omega)) (by simp)
  have s4 := more_ev ht (more t 0 (l.take i)) m1 [(l.take k).drop i, l.drop k] (fun p hp => by
    rcases List.mem_cons.1 hp with rfl | hp
    · exact big _ b2 c2
    · obtain rfl := List.mem_singleton.1 hp
      exact big _ b3 c3) (by simp)
  have s5 := more_ev ht 0 (by omega) [l.take k] (one_part b4 (by omega)) (by simp)
  have s6 := more_ev ht (more t 0 (l.take k)) m2 [l.drop k] (one_part b3 (by omega)) (by simp)
  have s7 := more_ev ht (more t 0 l) m0 [] (fun p hp => by simp at hp) (by simp)
  have s8 := sum_ev ht [l.take i, (l.take k).drop i, [], l.drop k] (fun p hp => by
    rcases List.mem_cons.1 hp with rfl | hp
    · exact big _ b1 c1
    · rcases List.mem_cons.1 hp with rfl | hp
      · exact big _ b2 c2
      · rcases List.mem_cons.1 hp with rfl | hp
        · exact big _ bnil (by simp)
        · obtain rfl := List.mem_singleton.1 hp
          exact big _ b3 c3) (by simp)
  have f9 : [l.take i, [], l.drop i].flatten = l := by
    simp only [List.flatten_cons, List.flatten_nil, List.append_nil, List.nil_append]
    exact List.take_append_drop i l
  have s9 := seal_ev ht [l.take i, [], l.drop i] (fun p hp => by
    rcases List.mem_cons.1 hp with rfl | hp
    · exact big _ b1 c1
    · rcases List.mem_cons.1 hp with rfl | hp
      · exact big _ bnil (by simp)
      · obtain rfl := List.mem_singleton.1 hp
        exact big _ b5 c5) (by simp) (by rw [f9]; omega)
  have s10 := sum_ev ht [[], l] (fun p hp => by
    rcases List.mem_cons.1 hp with rfl | hp
    · exact big _ bnil (by simp)
    · obtain rfl := List.mem_singleton.1 hp
      exact big _ h hl) (by simp)
  rw [f9] at s9
  simp only [List.flatten_cons, List.flatten_nil, List.append_nil, List.nil_append] at s1 s2 s3 s4 s5 s6 s7 s8 s10
  rw [more_more, mid_flat l i k hik] at s4
  rw [more_more, List.take_append_drop] at s6
  rw [more_nil] at s7
  rw [mid_flat l i k hik] at s8
  have i1 : (0 : Int) ≤ (i : Int) := Int.natCast_nonneg i
  have i2 : (i : Int) ≤ (l.length : Int) := by omega
  have i3 : (i : Int) ≤ (k : Int) := by omega
  have i4 : (k : Int) ≤ (l.length : Int) := by omega
  have i5 : (0 : Int) ≤ (k : Int) := Int.natCast_nonneg k
  refine Ev.succ ?_
  simp only [decklelaw02_CrcParts.j0, Bool.false_eq_true, if_false, if_pos i1, if_pos i2, if_pos i3, if_pos i4, if_pos i5, Int.toNat_natCast]
  refine Ev.bind s1 (Ev.bind s2 (Ev.bind s3 (Ev.bind (Ev.const _) (Ev.bind s4 ?_))))
  simp only [if_true]
  refine Ev.bind s5 (Ev.bind s6 ?_)
  simp only [if_true]
  refine Ev.bind s7 ?_
  simp only [bne_self_eq_false]
  refine Ev.succ ?_
  simp only [decklelaw02_CrcParts.j1, Bool.false_eq_true, if_false, if_true, if_pos i1, if_pos i2, if_pos i3, if_pos i4, if_pos i5, Int.toNat_natCast]
  refine Ev.bind (Ev.const _) ?_
  refine Ev.bind s8 ?_
  simp only [if_true]
  refine Ev.bind s9 ?_
  simp only [if_true]
  refine Ev.bind s10 ?_
  rw [BEq.rfl]
  exact Ev.const _
theorem CrcParts (t : List Int) (ht : ∀ i : Nat, i < 256 → (Lit.int .u32 (rd t (i : Int))).wf = true) (l : List Int) (h : ∀ y ∈ l, 0 ≤ y ∧ y ≤ 255) (i : Int) (wi : (Lit.int .i64 i).wf = true) (k : Int) (wk : (Lit.int .i64 k).wf = true) : ∃ z, decklelaw02_CrcParts.f z t l i k = some true := by
  have out : Ev (fun z => decklelaw02_CrcParts.j0 z l i k true true t) true := by
    refine Ev.succ ?_
    simp only [decklelaw02_CrcParts.j0, if_true]
    exact Ev.const _
  have main : Ev (fun z => decklelaw02_CrcParts.f z t l i k) true := by
    simp only [decklelaw02_CrcParts.f]
    refine Ev.bind small_ev ?_
    by_cases g1 : (l.length : Int) > 1000
    · simp only [if_pos g1]; exact out
    · simp only [if_neg g1]
      by_cases g2 : i < 0
      · simp only [if_pos g2]; exact out
      · simp only [if_neg g2]
        by_cases g3 : k < i
        · simp only [if_pos g3]; exact out
        · simp only [if_neg g3]
          by_cases g4 : k > (l.length : Int)
          · rw [decide_eq_true g4]; exact out
          · rw [decide_eq_false g4]
            obtain ⟨a, rfl⟩ : ∃ a : Nat, i = (a : Int) := ⟨i.toNat, by omega⟩
            obtain ⟨b, rfl⟩ : ∃ b : Nat, k = (b : Int) := ⟨k.toNat, by omega⟩
            exact parts_main ht l h (by omega) a b (by omega) (by omega)
  exact main.get

end Go.Proofs.Ytdoofhbapenhnaa.Pure
