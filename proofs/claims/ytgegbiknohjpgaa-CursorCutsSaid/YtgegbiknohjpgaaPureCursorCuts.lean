/- Bytes that are taken in pieces are those that are taken at once, whatever becomes of what was handed in, and of the pieces: for all bytes and pieces. -/
import Derived.Test.YtgegbiknohjpgaaHCursorCutsx5
import Derived.KernelRfl
namespace Go.Proofs.Ytgegbiknohjpgaa.Pure
open Go.RowKit Go.Proofs.Ytgegbiknohjpgaa.HCursorCuts Go.Proofs.YtgegbiknohjpgaaW.PrintWords Go.Proofs.YtgegbiknohjpgaaW.PrintLast Go.Proofs.YtgegbiknohjpgaaW.PrintMore
set_option linter.unusedVariables false
set_option linter.unusedSimpArgs false

theorem w64 {n : Int} (h1 : -9223372036854775808 ≤ n) (h2 : n ≤ 9223372036854775807) : wrap64 n = n := by unfold wrap64; omega
theorem clone_f (l : List Int) (h : l.length < 140737488355328) : slices_Clone_byte_byte.f l = some l := by
  unfold slices_Clone_byte_byte.f
  simp only [Option.bind_some, List.length_nil, List.nil_append]
  rw [if_pos (by omega)]
theorem take_nil (k : Nat) : varint_Take.f (k + 1) [] = some (0, 0, 2) := rfl
theorem small_true : decklelaw04_small.f 400 = some true := by kernel_rfl

theorem small_all (k : Nat) (hk : 400 ≤ k) : decklelaw04_small.f k = some true :=
  at_rounds (g := fun k => decklelaw04_small.f k) (fun k => decklelaw04_small.mono k) hk small_true
theorem take_ok (at_ e z fa : Int) (l : List Int) (hl : l.length ≤ 1000) (n : Int) (h0 : 0 ≤ n) (h1 : n ≤ l.length) : cursor_Cursor_Take.f at_ e z fa l n = some (l.take n.toNat, wrap64 (at_ + n), e, z, fa, l.drop n.toNat) := by
  unfold cursor_Cursor_Take.f
  rw [if_neg (by omega), clone_f _ (by rw [List.length_take]; omega), Option.bind_some]
theorem fill_in (b l : List Int) (a e z f : Int) (left : List Int) (d : Nat) : ∀ (K m : Nat) (x : List Int), x.length ≤ 1000 → m ≤ x.length → x.length - m = d → decklelaw04_CursorCuts.l0 (K + d + 1) b l true x (m : Int) a e z f left = decklelaw04_CursorCuts.l1 K b l true [] 0 a e z f left := by
  induction d with
  | zero =>
    intro K m x hx h1 h2
    rw [decklelaw04_CursorCuts.l0, if_neg (by omega)]
  | succ d ih =>
    intro K m x hx h1 h2
    rw [show K + (d + 1) + 1 = (K + d + 1) + 1 by omega, decklelaw04_CursorCuts.l0, if_pos (by omega), if_pos (by omega), show wrap64 ((m : Int) + 1) = ((m + 1 : Nat) : Int) by rw [w64 (by omega) (by omega)]; omega]
    exact ih K (m + 1) _ (by rw [List.length_set]; exact hx) (by rw [List.length_set]; omega) (by rw [List.length_set]; omega)
theorem fill_piece (b l all : List Int) (i a e z f : Int) (left : List Int) (d : Nat) : ∀ (K m : Nat) (x : List Int), x.length ≤ 1000 → m ≤ x.length → x.length - m = d → decklelaw04_CursorCuts.l2 (K + d + 1) b l true all i x (m : Int) a e z f left = decklelaw04_CursorCuts.l1 K b l true all (wrap64 (i + 1)) a e z f left := by
  induction d with
  | zero =>
    intro K m x hx h1 h2
    rw [decklelaw04_CursorCuts.l2, if_neg (by omega)]
  | succ d ih =>
    intro K m x hx h1 h2
    rw [show K + (d + 1) + 1 = (K + d + 1) + 1 by omega, decklelaw04_CursorCuts.l2, if_pos (by omega), if_pos (by omega), show wrap64 ((m : Int) + 1) = ((m + 1 : Nat) : Int) by rw [w64 (by omega) (by omega)]; omega]
    exact ih K (m + 1) _ (by rw [List.length_set]; exact hx) (by rw [List.length_set]; omega) (by rw [List.length_set]; omega)
def Fu : Nat → Nat
  | 0 => 20
  | d + 1 => Fu d + 600
theorem Fu_eq : ∀ d, Fu d = d * 600 + 20
  | 0 => rfl
  | d + 1 => by rw [Fu, Fu_eq d, Nat.succ_mul]
theorem Fu_le (d : Nat) (h : d ≤ 100) : 20 ≤ Fu d ∧ Fu d ≤ 60020 := by
  rw [Fu_eq]
  exact ⟨Nat.le_add_left _ _, Nat.le_trans (Nat.add_le_add_right (Nat.mul_le_mul_right 600 h) 20) (by decide)⟩
theorem cuts_loop (b l : List Int) (hb : b.length ≤ 500) (hl : l.length ≤ 100) (d : Nat) : ∀ (K i a : Nat), i ≤ l.length → l.length - i = d → Fu d ≤ K → a ≤ b.length → decklelaw04_CursorCuts.l1 K b l true (b.take a) (i : Int) (a : Int) 0 0 0 (b.drop a) = some true := by
  induction d with
  | zero =>
    intro K i a h1 h2 hK ha
    have hF := Fu_le 0 (by omega)
    obtain ⟨K, rfl⟩ : ∃ q, K = q + 1 := ⟨K - 1, by omega⟩
    have e1 : (b.take a).length = a := by rw [List.length_take]; omega
    have e2 : (b.drop a).length = b.length - a := List.length_drop
    rw [decklelaw04_CursorCuts.l1, if_neg (by omega), if_pos rfl, e1, if_pos (by omega)]
    unfold cursor_place_At.f cursor_Cursor_Left.f cursor_place_Fault.f
    rw [Option.bind_some]
    dsimp only
    rw [if_pos rfl, Option.bind_some]
    dsimp only
    rw [e2, w64 (by omega) (by omega), if_pos (by omega), if_pos (by omega), Int.toNat_natCast, if_pos rfl, Option.bind_some]
    rfl
  | succ d ih =>
    intro K i a h1 h2 hK ha
    have hF := Fu_le d (by omega)
    rw [Fu] at hK
    obtain ⟨K, rfl⟩ : ∃ q, K = q + 2 := ⟨K - 2, by omega⟩
    have e1 : (b.take a).length = a := by rw [List.length_take]; omega
    have e2 : (b.drop a).length = b.length - a := List.length_drop
    have ew : Aside0 (wrap64 ((i : Int) + 1) = ((i + 1 : Nat) : Int)) := ⟨by rw [w64 (by omega) (by omega)]; omega⟩
    rw [decklelaw04_CursorCuts.l1, if_pos (by omega), if_pos (by omega)]
    by_cases c : rd l (i : Int) ≥ 0
    · rw [if_pos c]
      unfold cursor_Cursor_Left.f
      rw [Option.bind_some]
      dsimp only
      rw [decklelaw04_CursorCuts.j3, e2]
      by_cases c2 : rd l (i : Int) ≤ ((b.length - a : Nat) : Int)
      · obtain ⟨n, hn⟩ := Int.eq_ofNat_of_zero_le c
        rw [hn] at c2 ⊢
        have e3 : ((b.drop a).take n).length = n := by rw [List.length_take, e2]; omega
        have ea : Aside0 (wrap64 ((a : Int) + (n : Int)) = ((a + n : Nat) : Int)) := ⟨by rw [w64 (by omega) (by omega)]; omega⟩
        obtain ⟨K3, hK3⟩ : ∃ q, K = q + (n + 1) + 1 := ⟨K - (n + 1) - 1, by omega⟩
        rw [decide_eq_true c2, if_pos rfl, if_pos (by omega), if_pos (by omega), take_ok _ _ _ _ _ (by omega) _ (by omega) (by omega), Option.bind_some, Int.toNat_natCast]
        dsimp only
        rw [if_pos (by omega), if_pos (by omega), hK3]
        have hf := fill_piece b l (b.take a ++ (b.drop a).take n) (i : Int) (wrap64 ((a : Int) + (n : Int))) 0 0 0 ((b.drop a).drop n) (n + 1) K3 0 ((b.drop a).take n ++ [7]) (by rw [List.length_append, e3, List.length_singleton]; omega) (by omega) (by rw [List.length_append, e3, List.length_singleton]; omega)
        rw [show ((0 : Nat) : Int) = 0 from rfl] at hf
        rw [hf, ea.out, ew.out, ← List.take_add, List.drop_drop]
        exact ih K3 (i + 1) (a + n) (by omega) (by omega) (by omega) (by omega)
      · rw [decide_eq_false c2, if_neg (by decide), ew.out]
        exact ih K (i + 1) a (by omega) (by omega) (by omega) ha
    · rw [if_neg c, decklelaw04_CursorCuts.j3, if_neg (by decide), ew.out]
      exact ih K (i + 1) a (by omega) (by omega) (by omega) ha
theorem cuts_at (K : Nat) (hK : 70000 ≤ K) (b l : List Int) : decklelaw04_CursorCuts.f K b l = some true := by
  obtain ⟨K, rfl⟩ : ∃ q, K = q + 1 := ⟨K - 1, by omega⟩
  have h0 : decklelaw04_CursorCuts.j0 (K + 1) b l true true = some true := by rw [decklelaw04_CursorCuts.j0, if_pos rfl]
  unfold decklelaw04_CursorCuts.f
  rw [small_all (K + 1) (by omega), Option.bind_some]
  by_cases h : (b.length : Int) > 500
  · rw [if_pos h, h0]
  · rw [if_neg h]
    by_cases h2 : (l.length : Int) > 100
    · rw [decide_eq_true h2, h0]
    · rw [decide_eq_false h2, decklelaw04_CursorCuts.j0, if_neg (by decide), Option.bind_some, if_pos (by simp only [List.length_nil]; omega), Option.bind_some, List.nil_append]
      unfold cursor_Open.f
      rw [clone_f _ (by omega), Option.bind_some, Option.bind_some]
      dsimp only
      obtain ⟨K3, hK3⟩ : ∃ q, K = q + b.length + 1 := ⟨K - b.length - 1, by omega⟩
      have hf := fill_in b l (mn (mx 0 0) 1099511627776) 0 0 0 b b.length K3 0 b (by omega) (by omega) (by omega)
      rw [show ((0 : Nat) : Int) = 0 from rfl] at hf
      rw [hK3, hf]
      have hF := Fu_le l.length (by omega)
      have := cuts_loop b l (by omega) (by omega) l.length K3 0 0 (by omega) (by omega) (by omega) (by omega)
      rwa [List.take_zero, List.drop_zero] at this
theorem CursorCuts : decklelaw04_CursorCuts.Pure := by
  intro b l _ _ _ _ _ _
  exact ⟨70000, cuts_at 70000 (Nat.le_refl _) b l⟩
end Go.Proofs.Ytgegbiknohjpgaa.Pure
