/- The tables of a polynomial are the document's: for every polynomial. -/
import Derived.Test.YtdoofhbapenhnaaHCrcTablesx3
import Derived.KernelRfl
namespace Go.Proofs.Ytdoofhbapenhnaa.Pure
open Go.RowKit Go.Proofs.Ytdoofhbapenhnaa.HCrcTables Go.Proofs.YtdoofhbapenhnaaW.PrintWords Go.Proofs.YtdoofhbapenhnaaW.PrintLast Go.Proofs.YtdoofhbapenhnaaW.PrintMore
set_option linter.unusedVariables false
set_option linter.unusedSimpArgs false

theorem w64 {n : Int} (h1 : -9223372036854775808 ≤ n) (h2 : n ≤ 9223372036854775807) : wrap64 n = n := by unfold wrap64; omega
/-- Told from some number of rounds on. -/
def Ev {α : Type} (g : Nat → Option α) (v : α) : Prop := ∃ k0, ∀ k, k0 ≤ k → g k = some v
theorem Ev.const {α : Type} (v : α) : Ev (fun _ => some v) v := ⟨0, fun _ _ => rfl⟩
theorem Ev.bind {α β : Type} {g : Nat → Option α} {F : Nat → α → Option β} {u : α} {v : β} (h : Ev g u) (h2 : Ev (fun k => F k u) v) : Ev (fun k => (g k).bind (F k)) v := by
  obtain ⟨a, ha⟩ := h
  obtain ⟨b, hb⟩ := h2
  exact ⟨a + b, fun k hk => by show (g k).bind (F k) = some v; rw [ha k (by omega), Option.bind_some]; exact hb k (by omega)⟩
theorem Ev.succ {α : Type} {g : Nat → Option α} {v : α} (h : Ev (fun k => g (k + 1)) v) : Ev g v := by
  obtain ⟨a, ha⟩ := h
  refine ⟨a + 1, fun k hk => ?_⟩
  obtain ⟨j, rfl⟩ : ∃ j, k = j + 1 := ⟨k - 1, by omega⟩
  exact ha j (by omega)
theorem Ev.get {α : Type} {g : Nat → Option α} {v : α} (h : Ev g v) : ∃ k, g k = some v := by
  obtain ⟨a, ha⟩ := h
  exact ⟨a, ha a (Nat.le_refl _)⟩
theorem rd_at (b : List Int) (m : Nat) (h : m < b.length) : rd b (m : Int) = b[m] := by
  unfold rd
  rw [List.getD_eq_getElem?_getD, Int.toNat_natCast, List.getElem?_eq_getElem h]; rfl
theorem ix {i n : Nat} (h : i < n) (hn : n ≤ 1099511627776) : wrap64 ((i : Int) + 1) = ((i + 1 : Nat) : Int) := by rw [w64 (by omega) (by omega)]; omega
/-! ### bits -/
theorem xor32 (a b : Nat) (ha : a < 4294967296) (hb : b < 4294967296) : Go.bits .xor .u32 (a : Int) (b : Int) = ((a ^^^ b : Nat) : Int) := by
  have hx : a ^^^ b < 2 ^ 32 := Nat.xor_lt_two_pow ha hb
  have ha' : a % 2 ^ IntKind.u32.bits = a := Nat.mod_eq_of_lt ha
  have hb' : b % 2 ^ IntKind.u32.bits = b := Nat.mod_eq_of_lt hb
  simp only [Go.bits, BitVec.ofInt_natCast, BitVec.toNat_xor, BitVec.toNat_ofNat, ha', hb', IntKind.wrap_u32]
  omega
theorem and32 (a b : Nat) (ha : a < 4294967296) (hb : b < 4294967296) : Go.bits .and .u32 (a : Int) (b : Int) = ((a &&& b : Nat) : Int) := by
  have hx : a &&& b < 2 ^ 32 := Nat.and_lt_two_pow _ hb
  have ha' : a % 2 ^ IntKind.u32.bits = a := Nat.mod_eq_of_lt ha
  have hb' : b % 2 ^ IntKind.u32.bits = b := Nat.mod_eq_of_lt hb
  simp only [Go.bits, BitVec.ofInt_natCast, BitVec.toNat_and, BitVec.toNat_ofNat, ha', hb', IntKind.wrap_u32]
  omega
theorem xor8 (a b : Nat) (ha : a < 256) (hb : b < 256) : Go.bits .xor .u8 (a : Int) (b : Int) = ((a ^^^ b : Nat) : Int) := by
  have hx : a ^^^ b < 2 ^ 8 := Nat.xor_lt_two_pow ha hb
  have ha' : a % 2 ^ IntKind.u8.bits = a := Nat.mod_eq_of_lt ha
  have hb' : b % 2 ^ IntKind.u8.bits = b := Nat.mod_eq_of_lt hb
  simp only [Go.bits, BitVec.ofInt_natCast, BitVec.toNat_xor, BitVec.toNat_ofNat, ha', hb', IntKind.wrap_u8]
  omega
/-- One bit is taken. -/
def st (p n : Nat) : Nat := (n / 2) ^^^ (if n % 2 = 1 then p else 0)
def stN (p : Nat) : Nat → Nat → Nat
  | 0, n => n
  | k + 1, n => stN p k (st p n)
theorem st_lt {p n : Nat} (hp : p < 4294967296) (hn : n < 4294967296) : st p n < 4294967296 := by
  unfold st
  refine Nat.xor_lt_two_pow (n := 32) (by omega) ?_
  split
  · exact hp
  · omega
theorem stN_lt {p : Nat} (hp : p < 4294967296) : ∀ k n, n < 4294967296 → stN p k n < 4294967296 := by
  intro k
  induction k with
  | zero => intro n h; exact h
  | succ k ih => intro n h; exact ih _ (st_lt hp h)
theorem bit1_st {p n : Nat} (hp : p < 4294967296) (hn : n < 4294967296) : bit1 (p : Int) (n : Int) = (st p n : Int) := by
  unfold bit1 st
  have h1 : Go.bits .and .u32 (n : Int) 1 = ((n % 2 : Nat) : Int) := by
    have := and32 n 1 hn (by omega)
    rw [Nat.and_one_is_mod] at this
    exact this
  rw [h1]
  rcases Nat.mod_two_eq_zero_or_one n with e | e
  · rw [e, if_neg (by omega)]
    have h2 : Go.bits .and .u32 (p : Int) (-((0 : Nat) : Int) % 4294967296) = ((p &&& 0 : Nat) : Int) := and32 p 0 hp (by omega)
    rw [h2, Nat.and_zero]
    have h3 := xor32 (n / 2) 0 (by omega) (by omega)
    rw [← h3]
    rfl
  · rw [e, if_pos rfl]
    have h2 : Go.bits .and .u32 (p : Int) (-((1 : Nat) : Int) % 4294967296) = ((p &&& 4294967295 : Nat) : Int) := and32 p 4294967295 hp (by omega)
    have h4 : p &&& 4294967295 = p := by
      have := Nat.and_two_pow_sub_one_eq_mod p 32
      rw [show (2 ^ 32 - 1 : Nat) = 4294967295 from rfl] at this
      rw [this]
      exact Nat.mod_eq_of_lt hp
    rw [h2, h4]
    have h3 := xor32 (n / 2) p (by omega) hp
    rw [← h3]
    rfl
theorem bit2_st {p n : Nat} (hp : p < 4294967296) (hn : n < 4294967296) : bit2 (p : Int) (n : Int) = (st p n : Int) := by
  unfold bit2 st
  have h0 : Int.tmod (n : Int) 2 = ((n % 2 : Nat) : Int) := by rw [Int.tmod_eq_emod_of_nonneg (by omega)]; omega
  have h1 : Int.tdiv (n : Int) 2 % 4294967296 = ((n / 2 : Nat) : Int) := by rw [Int.tdiv_eq_ediv_of_nonneg (by omega)]; omega
  rw [h0, h1]
  rcases Nat.mod_two_eq_zero_or_one n with e | e
  · rw [e, if_neg (show ¬ ((0 : Nat) = 1) by omega), Nat.xor_zero]; rfl
  · rw [e, if_pos (show (1 : Nat) = 1 from rfl)]
    exact xor32 (n / 2) p (by omega) hp
theorem bitsN_st {p : Nat} (hp : p < 4294967296) : ∀ k n : Nat, n < 4294967296 → bitsN (p : Int) k (n : Int) = (stN p k n : Int) := by
  intro k
  induction k with
  | zero => intro n _; rfl
  | succ k ih => intro n h; show bitsN (p : Int) k (bit1 (p : Int) (n : Int)) = _; rw [bit1_st hp h]; exact ih _ (st_lt hp h)
theorem bitsM_st {p : Nat} (hp : p < 4294967296) : ∀ k n : Nat, n < 4294967296 → bitsM (p : Int) k (n : Int) = (stN p k n : Int) := by
  intro k
  induction k with
  | zero => intro n _; rfl
  | succ k ih => intro n h; show bitsM (p : Int) k (bit2 (p : Int) (n : Int)) = _; rw [bit2_st hp h]; exact ih _ (st_lt hp h)
theorem tab_same {p : Nat} (hp : p < 4294967296) : tabOf (bitsN (p : Int) 8) = tabOf (bitsM (p : Int) 8) := by
  unfold tabOf
  refine List.map_congr_left fun i hi => ?_
  have := List.mem_range.1 hi
  rw [bitsN_st hp 8 i (by omega), bitsM_st hp 8 i (by omega)]
theorem wf32 {a : Int} (h : (Lit.int .u32 a).wf = true) : ∃ n : Nat, a = (n : Int) ∧ n < 4294967296 := by
  have e0 : IntKind.u32.min = 0 := by decide
  have e1 : IntKind.u32.max = 4294967295 := by decide
  simp only [Lit.wf, Bool.and_eq_true, decide_eq_true_eq, e0, e1] at h
  exact ⟨a.toNat, by omega, by omega⟩
theorem small_ev : Ev (fun k => decklelaw02_small.f k) true :=
  ⟨100, fun k hk => at_rounds (g := fun k => decklelaw02_small.f k) (fun k => decklelaw02_small.mono k) hk (by decide +kernel)⟩

theorem CrcTables : decklelaw02_CrcTables.Pure := by
  intro a0 w0
  obtain ⟨p, rfl, hp⟩ := wf32 w0
  have main : Ev (fun k => decklelaw02_CrcTables.f k (p : Int)) true := by
    simp only [decklelaw02_CrcTables.f]
    refine Ev.bind small_ev ?_
    simp only [if_true]
    refine Ev.bind (u := tabOf (bitsN (p : Int) 8)) (Ev.const _) ?_
    refine Ev.bind (u := tabOf (bitsM (p : Int) 8)) (Ev.const _) ?_
    rw [if_pos (tab_same hp)]
    exact Ev.const _
  exact main.get

end Go.Proofs.Ytdoofhbapenhnaa.Pure
