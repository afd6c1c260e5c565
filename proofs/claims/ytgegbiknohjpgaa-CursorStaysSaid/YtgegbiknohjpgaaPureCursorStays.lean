import Derived.Test.YtgegbiknohjpgaaHCursorStaysx5
import Derived.KernelRfl
namespace Go.Proofs.Ytgegbiknohjpgaa.Pure
open Go.RowKit Go.Proofs.Ytgegbiknohjpgaa.HCursorStays Go.Proofs.YtgegbiknohjpgaaW.PrintWords Go.Proofs.YtgegbiknohjpgaaW.PrintLast Go.Proofs.YtgegbiknohjpgaaW.PrintMore
set_option linter.unusedVariables false
set_option linter.unusedSimpArgs false

theorem w64 {n : Int} (h1 : -9223372036854775808 ≤ n) (h2 : n ≤ 9223372036854775807) : wrap64 n = n := by unfold wrap64; omega
theorem clone_f (l : List Int) (h : l.length < 140737488355328) : slices_Clone_byte_byte.f l = some l := by
  unfold slices_Clone_byte_byte.f
  simp only [Option.bind_some, List.length_nil, List.nil_append]
  rw [if_pos (by omega)]
theorem take_nil (k : Nat) : varint_Take.f (k + 1) [] = some (0, 0, 2) := rfl
theorem small_true : decklelaw04_small.f 400 = some true := by kernel_rfl

theorem note_gone (P e : Int) (he : e ≠ 0) (x : Int) : cursor_place_note.f P e 0 P [] x = some (P, e, 0, P, []) := by
  unfold cursor_place_note.f
  rw [if_neg he]
theorem fail_gone (P e : Int) (he : e ≠ 0) (x : Int) : cursor_Cursor_Fail.f P e 0 P [] x = some (P, e, 0, P, []) := by
  unfold cursor_Cursor_Fail.f
  by_cases h : x = 0
  · rw [if_pos h]
  · rw [if_neg h, note_gone P e he]
    rfl
theorem take_gone (P e : Int) (he : e ≠ 0) (hP : 0 ≤ P ∧ P ≤ 4294967296) (n : Int) : cursor_Cursor_Take.f P e 0 P [] n = some ([], P, e, 0, P, []) := by
  unfold cursor_Cursor_Take.f
  by_cases h : n < 0 ∨ ((([] : List Int).length : Nat) : Int) < n
  · rw [if_pos h, fail_gone P e he]
    rfl
  · rw [if_neg h]
    have h0 : n = 0 := by simp at h; omega
    subst h0
    rw [show ([] : List Int).take (0 : Int).toNat = [] from rfl, clone_f [] (by simp), Int.add_zero, w64 (by omega) (by omega)]
    rfl
theorem byte_gone (P e : Int) (he : e ≠ 0) (hP : 0 ≤ P ∧ P ≤ 4294967296) : cursor_Cursor_Byte.f P e 0 P [] = some (0, P, e, 0, P, []) := by
  unfold cursor_Cursor_Byte.f
  rw [take_gone P e he hP]
  rfl
theorem number_gone (k : Nat) (P e : Int) (he : e ≠ 0) (m : Int) : cursor_Cursor_number.f (k + 2) P e 0 P [] m = some (0, P, e, 0, P, []) := by
  unfold cursor_Cursor_number.f
  rw [take_nil]
  simp only [Option.bind_some]
  rw [if_neg (by decide), cursor_Cursor_number.j0, if_neg (by decide), cursor_Cursor_number.j1, if_neg (by decide), fail_gone P e he]
  rfl
theorem num_gone (k : Nat) (P e : Int) (he : e ≠ 0) (m : Int) : cursor_Cursor_Num.f (k + 2) P e 0 P [] m = some (0, P, e, 0, P, []) := by
  unfold cursor_Cursor_Num.f
  by_cases h : m ≥ 0
  · rw [if_pos h, number_gone k P e he]
    simp only [Option.bind_some]
    rw [w64 (by omega) (by omega)]
  · rw [if_neg h, take_nil]
    simp only [Option.bind_some]
    rw [fail_gone P e he]
    simp only [Option.bind_some]
    rw [fail_gone P e he]
    rfl
theorem zag_zero : varint_Zag.f 0 = some 0 := by kernel_rfl
theorem int_gone (k : Nat) (P e : Int) (he : e ≠ 0) : cursor_Cursor_Int.f (k + 2) P e 0 P [] = some (0, P, e, 0, P, []) := by
  unfold cursor_Cursor_Int.f
  rw [number_gone k P e he]
  simp only [Option.bind_some]
  rw [zag_zero]
  rfl
theorem round (k : Nat) (l : List S42) (i : Int) (P e : Int) (he : e ≠ 0) : decklelaw04_CursorStays.j2 (k + 1) l true i true P e 0 P [] e 0 P = decklelaw04_CursorStays.l0 k l true (wrap64 (i + 1)) P e 0 P [] e 0 P := by
  rw [decklelaw04_CursorStays.j2, if_pos rfl]
  simp only [cursor_place_Fault.f, cursor_Cursor_End.f, cursor_Cursor_Left.f, cursor_place_At.f, Option.bind_some, beq_self_eq_true, Bool.not_true, Bool.or_self, Bool.false_eq_true, if_false, if_neg he, List.length_nil, Int.ofNat_zero, if_true]
  try rfl
theorem loop (l : List S42) (hl : l.length ≤ 100) (P e : Int) (he : e ≠ 0) (hP : 0 ≤ P ∧ P ≤ 4294967296) (d : Nat) : ∀ (K i : Nat), i ≤ l.length → l.length - i = d → 2 * d + 5 ≤ K → decklelaw04_CursorStays.l0 K l true (i : Int) P e 0 P [] e 0 P = some true := by
  induction d with
  | zero =>
    intro K i h1 h2 h3
    obtain ⟨K, rfl⟩ : ∃ q, K = q + 1 := ⟨K - 1, by omega⟩
    have c : ¬ (i : Int) < l.length := by omega
    rw [decklelaw04_CursorStays.l0, if_neg c, if_pos rfl]
    simp only [cursor_place_Fault.f, Option.bind_some, beq_self_eq_true, Bool.and_self]
  | succ d ih =>
    intro K i h1 h2 h3
    obtain ⟨K, rfl⟩ : ∃ q, K = q + 4 := ⟨K - 4, by omega⟩
    have c : (i : Int) < l.length := by omega
    have c0 : (0 : Int) ≤ i := by omega
    have hw : wrap64 ((i : Int) + 1) = ((i + 1 : Nat) : Int) := by rw [w64 (by omega) (by omega)]; omega
    have g1 : i + 1 ≤ l.length := by omega
    have g2 : l.length - (i + 1) = d := by omega
    have g3 : 2 * d + 5 ≤ K + 2 := by omega
    have next := ih (K + 2) (i + 1) g1 g2 g3
    rw [← hw] at next
    rw [show K + 4 = (K + 3) + 1 from rfl, decklelaw04_CursorStays.l0, if_pos c, if_pos c0]
    split
    · rw [byte_gone P e he hP]
      exact (round (K + 2) l i P e he).trans next
    split
    · rw [show K + 3 = (K + 1) + 2 from rfl, num_gone (K + 1) P e he]
      exact (round (K + 2) l i P e he).trans next
    split
    · rw [show K + 3 = (K + 1) + 2 from rfl, int_gone (K + 1) P e he]
      exact (round (K + 2) l i P e he).trans next
    split
    · rw [take_gone P e he hP]
      exact (round (K + 2) l i P e he).trans next
    split
    · rw [fail_gone P e he]
      exact (round (K + 2) l i P e he).trans next
    · exact (round (K + 2) l i P e he).trans next
theorem start (x : List Int) (hx : x.length ≤ 500) (e : Int) (he : e ≠ 0) (l : List S42) (hl : l.length ≤ 100) (K : Nat) (hK : 300 ≤ K) : decklelaw04_CursorStays.j0 K x e l true false = some true := by
  obtain ⟨K, rfl⟩ : ∃ q, K = q + 1 := ⟨K - 1, by omega⟩
  have hh : wrap64 ((x.length : Int) / 2) = ((x.length / 2 : Nat) : Int) := by rw [w64 (by omega) (by omega)]; omega
  have h3 : wrap64 (3 + ((x.length / 2 : Nat) : Int)) = 3 + ((x.length / 2 : Nat) : Int) := w64 (by omega) (by omega)
  have o : cursor_Open.f x 3 = some (3, 0, 0, 0, x) := by
    unfold cursor_Open.f
    rw [clone_f x (by omega)]
    rfl
  have t : cursor_Cursor_Take.f 3 0 0 0 x ((x.length / 2 : Nat) : Int) = some (x.take (x.length / 2), 3 + ((x.length / 2 : Nat) : Int), 0, 0, 0, x.drop (x.length / 2)) := by
    unfold cursor_Cursor_Take.f
    rw [if_neg (by omega), Int.toNat_natCast, clone_f _ (by rw [List.length_take]; omega), h3]
    rfl
  have f : cursor_Cursor_Fail.f (3 + ((x.length / 2 : Nat) : Int)) 0 0 0 (x.drop (x.length / 2)) e = some (3 + ((x.length / 2 : Nat) : Int), e, 0, 3 + ((x.length / 2 : Nat) : Int), []) := by
    unfold cursor_Cursor_Fail.f cursor_place_note.f
    rw [if_neg he, if_pos rfl]
    rfl
  rw [decklelaw04_CursorStays.j0, if_neg (by decide), o]
  simp only [Option.bind_some, hh]
  rw [t]
  simp only [Option.bind_some]
  rw [f]
  simp only [Option.bind_some, h3]
  exact loop l hl _ e he (by omega) l.length K 0 (Nat.zero_le _) rfl (by omega)
theorem CursorStaysK (K : Nat) (hK : 301 ≤ K) (hs : decklelaw04_small.f K = some true) (x : List Int) (e : Int) (l : List S42) : decklelaw04_CursorStays.f K x e l = some true := by
  have yes : decklelaw04_CursorStays.j0 K x e l true true = some true := by
    obtain ⟨K, rfl⟩ : ∃ q, K = q + 1 := ⟨K - 1, by omega⟩
    rw [decklelaw04_CursorStays.j0, if_pos rfl]
  unfold decklelaw04_CursorStays.f
  rw [hs]
  simp only [Option.bind_some]
  by_cases c1 : (x.length : Int) > 500
  · rw [if_pos c1]; exact yes
  rw [if_neg c1]
  by_cases c2 : (l.length : Int) > 100
  · rw [if_pos c2]; exact yes
  rw [if_neg c2]
  by_cases c3 : e = 0
  · subst c3; exact yes
  · rw [show (e == 0) = false from by simp [c3]]
    exact start x (by omega) e c3 l (by omega) K (by omega)
/-- The first fault stays, and behind it all that is read is zero. -/
theorem CursorStays (x : List Int) (_ : ∀ y ∈ x, 0 ≤ y ∧ y ≤ 255) (e : Int) (_ : (Lit.int .i64 e).wf = true) (l : List S42) (_ : ∀ y ∈ l, (Lit.int .i64 y.f0).wf = true ∧ (Lit.int .i64 y.f1).wf = true) : decklelaw04_CursorStays.f 400 x e l = some true := CursorStaysK 400 (by decide) small_true x e l
end Go.Proofs.Ytgegbiknohjpgaa.Pure
