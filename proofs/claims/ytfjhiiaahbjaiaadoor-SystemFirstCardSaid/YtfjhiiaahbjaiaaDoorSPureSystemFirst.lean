/- A variable may be what it is at first, just the system's have such, and none may be what is not tight: for all names, and all nodes. -/
import Derived.Test.YtfjhiiaahbjaiaaDoorSSystemFirstx24
import Derived.Lib.ItoaLen
import Derived.Laws.Strings
import Derived.KernelRfl
namespace Go.Proofs.YtfjhiiaahbjaiaaDoor.Pure
open Go.RowKit Go.Proofs.YtfjhiiaahbjaiaaDoor.HSystemFirst Go.Proofs.YtfjhiiaahbjaiaaDoorW.PrintWords Go.Proofs.YtfjhiiaahbjaiaaDoorW.PrintLast Go.Proofs.YtfjhiiaahbjaiaaDoorW.PrintMore
set_option linter.unusedVariables false
set_option linter.unusedSimpArgs false
theorem w64 {n : Int} (h1 : -9223372036854775808 ≤ n) (h2 : n ≤ 9223372036854775807) : wrap64 n = n := by unfold wrap64; omega
theorem Xdq (b : List Int) (m : Nat) (h : m < b.length) : rd b (m : Int) = b[m] := by
 unfold rd
 rw [List.getD_eq_getElem?_getD, Int.toNat_natCast, List.getElem?_eq_getElem h]; rfl
theorem rdT_at (b : List S32) (m : Nat) (h : m < b.length) : Xa b (m : Int) = b[m] := by
 unfold Xa
 rw [List.getD_eq_getElem?_getD, Int.toNat_natCast, List.getElem?_eq_getElem h]; rfl
def Ev {α : Type} (g : Nat → Option α) (v : α) : Prop := ∃ k0, ∀ k, k0 ≤ k → g k = some v
theorem Ev.const {α : Type} (v : α) : Ev (fun _ => some v) v := ⟨0, fun _ _ => rfl⟩
theorem Ev.bind {α β : Type} {g : Nat → Option α} {F : Nat → α → Option β} {u : α} {v : β} (h : Ev g u) (h2 : Ev (fun k => F k u) v) : Ev (fun k => (g k).bind (F k)) v := by
 obtain ⟨a, ha⟩ := h
 obtain ⟨b, hb⟩ := h2
 exact ⟨a + b, fun k hk => by show (g k).bind (F k) = some v; rw [ha k (by omega), Option.bind_some]; exact hb k (by omega)⟩
theorem Ev.succ {α : Type} {g : Nat → Option α} {v : α} (h : Ev (fun k => g (k + 1)) v) : Ev g v := by
 obtain ⟨a, ha⟩ := h
 refine ⟨a + 1, fun k hk => ?_⟩
 obtain ⟨j, rfl⟩ : ∃ j, k = j + 1 := ⟨k - 1, by omega⟩
 exact ha j (by omega)
theorem Ev.uniq {α : Type} {g : Nat → Option α} {u v : α} (h : Ev g u) (h2 : Ev g v) : u = v := by
 obtain ⟨a, ha⟩ := h
 obtain ⟨b, hb⟩ := h2
 exact Option.some.inj ((ha (a + b) (by omega)).symm.trans (hb (a + b) (by omega)))
theorem Ev.get {α : Type} {g : Nat → Option α} {v : α} (h : Ev g v) : ∃ k, g k = some v := by
 obtain ⟨a, ha⟩ := h
 exact ⟨a, ha a (Nat.le_refl _)⟩
theorem ix {i n : Nat} (h : i < n) (hn : n ≤ 9223372036854775807) : wrap64 ((i : Int) + 1) = ((i + 1 : Nat) : Int) := by rw [w64 (by omega) (by omega)]; omega
theorem count1_some (a : Int) : ∃ t, Xb0.f a = some t ∧ (t = false → 0 ≤ a ∧ a ≤ 1048576) := by
 unfold Xb0.f
 by_cases h : a < 0
 ·exact ⟨true, if_pos h, by simp⟩
 ·refine ⟨decide (a > 1048576), if_neg h, fun e => ?_⟩
  have := of_decide_eq_false e
  omega
theorem index1_ev (l : List Int) (hl : l.length ≤ 9223372036854775807) : ∀ d i, i ≤ l.length → l.length - i = d → ∃ v, Ev (fun k => Xq.l0 k l (l.length : Int) (i : Int)) v := by
 intro d
 induction d with
 | zero =>
  intro i h1 h2
  refine ⟨-1, Ev.succ ?_⟩
  simp only [Xq.l0, if_neg (show ¬ ((i : Int) < (l.length : Int)) by omega)]
  exact Ev.const _
 | succ d ih =>
  intro i h1 h2
  have hi : i < l.length := by omega
  obtain ⟨t, ht, _⟩ := count1_some (rd l (i : Int))
  obtain ⟨v, hv⟩ := ih (i + 1) (by omega) (by omega)
  cases t with
  | true =>
   refine ⟨(i : Int), Ev.succ ?_⟩
   simp only [Xq.l0, if_pos (show ((i : Int) < (l.length : Int)) by omega), if_pos (show (0 : Int) ≤ (i : Int) by omega), ht]
   exact Ev.bind (Ev.const _) (Ev.const _)
  | false =>
   refine ⟨v, Ev.succ ?_⟩
   simp only [Xq.l0, if_pos (show ((i : Int) < (l.length : Int)) by omega), if_pos (show (0 : Int) ≤ (i : Int) by omega), ht, ix hi hl]
   exact Ev.bind (Ev.const _) hv
theorem index_ev (l : List Int) (a : Int) (hl : l.length ≤ 9223372036854775807) : ∀ d i, i ≤ l.length → l.length - i = d → ∃ v, Ev (fun k => Xw.l0 k l a (l.length : Int) (i : Int)) v := by
 intro d
 induction d with
 | zero =>
  intro i h1 h2
  refine ⟨-1, Ev.succ ?_⟩
  simp only [Xw.l0, if_neg (show ¬ ((i : Int) < (l.length : Int)) by omega)]
  exact Ev.const _
 | succ d ih =>
  intro i h1 h2
  have hi : i < l.length := by omega
  obtain ⟨v, hv⟩ := ih (i + 1) (by omega) (by omega)
  by_cases e : a = rd l (i : Int)
  ·refine ⟨(i : Int), Ev.succ ?_⟩
   simp only [Xw.l0, if_pos (show ((i : Int) < (l.length : Int)) by omega), if_pos (show (0 : Int) ≤ (i : Int) by omega), if_pos e]
   exact Ev.const _
  ·refine ⟨v, Ev.succ ?_⟩
   simp only [Xw.l0, if_pos (show ((i : Int) < (l.length : Int)) by omega), if_pos (show (0 : Int) ≤ (i : Int) by omega), if_neg e, ix hi hl]
   exact hv
theorem countl_ev (l : List Int) (hl : l.length ≤ 9223372036854775807) : ∀ d i x, i ≤ l.length → l.length - i = d → 0 ≤ x → x ≤ 1048576 → ∃ c b, Ev (fun k => X3.l0 k x l (l.length : Int) (i : Int)) (c, b) ∧ 0 ≤ c ∧ c ≤ 1048576 := by
 intro d
 induction d with
 | zero =>
  intro i x h1 h2 hx0 hx1
  refine ⟨x, true, Ev.succ ?_, hx0, hx1⟩
  simp only [X3.l0, if_neg (show ¬ ((i : Int) < (l.length : Int)) by omega)]
  exact Ev.const _
 | succ d ih =>
  intro i x h1 h2 hx0 hx1
  have hi : i < l.length := by omega
  obtain ⟨t, ht, hb⟩ := count1_some (wrap64 (x * rd l (i : Int)))
  cases t with
  | true =>
   refine ⟨0, false, Ev.succ ?_, by omega, by omega⟩
   simp only [X3.l0, if_pos (show ((i : Int) < (l.length : Int)) by omega), if_pos (show (0 : Int) ≤ (i : Int) by omega), ht]
   exact Ev.bind (Ev.const _) (Ev.const _)
  | false =>
   obtain ⟨c, b, hv, h3⟩ := ih (i + 1) (wrap64 (x * rd l (i : Int))) (by omega) (by omega) (hb rfl).1 (hb rfl).2
   refine ⟨c, b, Ev.succ ?_, h3⟩
   simp only [X3.l0, if_pos (show ((i : Int) < (l.length : Int)) by omega), if_pos (show (0 : Int) ≤ (i : Int) by omega), ht, ix hi hl]
   exact Ev.bind (Ev.const _) hv
theorem count_ev (l : List Int) : ∃ c b, Ev (fun k => X3.f k l) (c, b) ∧ 0 ≤ c ∧ c ≤ 1048576 := by
 by_cases h : (l.length : Int) > 16
 ·refine ⟨0, false, ?_, by omega, by omega⟩
  simp only [X3.f, if_pos h]
  refine Ev.succ ?_
  simp only [X3.j0]
  exact Ev.const _
 ·have hl : l.length ≤ 9223372036854775807 := by omega
  obtain ⟨v1, e1⟩ := index1_ev l hl l.length 0 (by omega) (by omega)
  obtain ⟨v2, e2⟩ := index_ev l 0 hl l.length 0 (by omega) (by omega)
  obtain ⟨c, b, e3, hc⟩ := countl_ev l hl l.length 0 1 (by omega) (by omega) (by omega) (by omega)
  simp only [X3.f, if_neg h, Xao.f, Xq.f]
  have hf : ∀ t, ∃ c b, Ev (fun k => X3.j0 k l t) (c, b) ∧ 0 ≤ c ∧ c ≤ 1048576 := by
   intro t
   cases t with
   | true =>
    refine ⟨0, false, Ev.succ ?_, by omega, by omega⟩
    simp only [X3.j0]
    exact Ev.const _
   | false =>
    cases hd : decide (v2 ≥ 0) with
    | true =>
     refine ⟨0, true, Ev.succ ?_, by omega, by omega⟩
     simp only [X3.j0, Xaq.f, Xw.f]
     refine Ev.bind (u := true) (Ev.bind e2 (by simp only [hd]; exact Ev.const _)) (Ev.const _)
    | false =>
     refine ⟨c, b, Ev.succ ?_, hc⟩
     simp only [X3.j0, Xaq.f, Xw.f]
     exact Ev.bind (u := false) (Ev.bind e2 (by simp only [hd]; exact Ev.const _)) e3
  obtain ⟨c', b', e4, hc'⟩ := hf (decide (v1 ≥ 0))
  exact ⟨c', b', Ev.bind (Ev.bind e1 (Ev.const _)) e4, hc'⟩
theorem valid_ev (a : Int) : ∃ v, Ev (fun k => Xaf.f k a) v := by
 have hj : ∀ t, ∃ v, Ev (fun k => Xaf.j0 k a t) v := by
  intro t
  cases t with
  | true => exact ⟨true, Ev.succ (by simp only [Xaf.j0]; exact Ev.const _)⟩
  | false =>
   by_cases h1 : 57343 < a
   ·by_cases h2 : a ≤ 1114111
    ·exact ⟨true, Ev.succ (by simp only [Xaf.j0, if_pos h1, if_pos h2]; exact Ev.const _)⟩
    ·exact ⟨false, Ev.succ (by simp only [Xaf.j0, if_pos h1, if_neg h2]; exact Ev.const _)⟩
   ·exact ⟨false, Ev.succ (by simp only [Xaf.j0, if_neg h1]; exact Ev.const _)⟩
 by_cases h : 0 ≤ a
 ·simp only [Xaf.f, if_pos h]; exact hj _
 ·simp only [Xaf.f, if_neg h]; exact hj _
theorem fits_ev (a b : Int) : ∃ v, Ev (fun k => Xbn.f k a b) v := by
 by_cases h1 : a = 1
 ·simp only [Xbn.f, if_pos h1]; exact ⟨_, Ev.const _⟩
 ·by_cases h2 : a = 2
  ·simp only [Xbn.f, if_neg h1, if_pos h2]; exact ⟨_, Ev.const _⟩
  ·by_cases h3 : a = 3
   ·by_cases h4 : b = wrap64 (wrap32 b)
    ·obtain ⟨v, hv⟩ := valid_ev (wrap32 b)
     refine ⟨v, ?_⟩
     simp only [Xbn.f, if_neg h1, if_neg h2, if_pos h3, if_pos h4]
     exact Ev.bind hv (Ev.const _)
    ·simp only [Xbn.f, if_neg h1, if_neg h2, if_pos h3, if_neg h4]; exact ⟨_, Ev.const _⟩
   ·simp only [Xbn.f, if_neg h1, if_neg h2, if_neg h3]; exact ⟨_, Ev.const _⟩
theorem wrongs_ev (l : List Int) (a : Int) (hl : l.length ≤ 9223372036854775807) : ∀ d i, i ≤ l.length → l.length - i = d → ∃ v, Ev (fun k => X5.l0 k a l (l.length : Int) (i : Int)) v := by
 intro d
 induction d with
 | zero =>
  intro i h1 h2
  refine ⟨false, Ev.succ ?_⟩
  simp only [X5.l0, if_neg (show ¬ ((i : Int) < (l.length : Int)) by omega)]
  exact Ev.const _
 | succ d ih =>
  intro i h1 h2
  have hi : i < l.length := by omega
  obtain ⟨t, ht⟩ := fits_ev a (rd l (i : Int))
  obtain ⟨v, hv⟩ := ih (i + 1) (by omega) (by omega)
  cases t with
  | true =>
   refine ⟨v, Ev.succ ?_⟩
   simp only [X5.l0, if_pos (show ((i : Int) < (l.length : Int)) by omega), if_pos (show (0 : Int) ≤ (i : Int) by omega), Xbr.f, ix hi hl]
   exact Ev.bind (u := true) (Ev.bind ht (Ev.const _)) hv
  | false =>
   refine ⟨true, Ev.succ ?_⟩
   simp only [X5.l0, if_pos (show ((i : Int) < (l.length : Int)) by omega), if_pos (show (0 : Int) ≤ (i : Int) by omega), Xbr.f]
   exact Ev.bind (u := false) (Ev.bind ht (Ev.const _)) (Ev.const _)
theorem norm_ev : ∀ (d : Nat) (x e : Int), -9223372036854775808 ≤ e → e ≤ 9223372036854775807 → (32768 - e).toNat ≤ d → ∃ v, Ev (fun k => Xai.l0 k x e) v := by
 intro d
 induction d with
 | zero =>
  intro x e h1 h2 h3
  have h4 : ¬ e ≤ 32767 := by omega
  have h5 : ¬ e < -32768 := by omega
  have h6 : e > 32767 := by omega
  refine ⟨(0, 0, false), Ev.succ ?_⟩
  by_cases h : Int.tmod x 10 = 0
  ·simp only [Xai.l0, if_pos h, if_neg h4, if_neg h5, if_pos h6]; exact Ev.const _
  ·simp only [Xai.l0, if_neg h, if_neg h5, if_pos h6]; exact Ev.const _
 | succ d ih =>
  intro x e h1 h2 h3
  have hl : ∃ v : Int × Int × Bool, (if e < -32768 then some (0, 0, false) else if e > 32767 then some (0, 0, false) else some (x, e, true)) = some v := by
   split
   ·exact ⟨_, rfl⟩
   ·split <;> exact ⟨_, rfl⟩
  obtain ⟨v, hv⟩ := hl
  by_cases h : Int.tmod x 10 = 0
  ·by_cases h4 : e ≤ 32767
   ·have hw : wrap64 (e + 1) = e + 1 := w64 (by omega) (by omega)
    obtain ⟨v', hv'⟩ := ih (wrap64 (Int.tdiv x 10)) (wrap64 (e + 1)) (by omega) (by omega) (by omega)
    refine ⟨v', Ev.succ ?_⟩
    simp only [Xai.l0, if_pos h, if_pos h4]; exact hv'
   ·refine ⟨v, Ev.succ ?_⟩
    simp only [Xai.l0, if_pos h, if_neg h4, hv]; exact Ev.const _
  ·refine ⟨v, Ev.succ ?_⟩
   simp only [Xai.l0, if_neg h, hv]; exact Ev.const _
def OkD (y : S40) : Prop := -9223372036854775808 ≤ y.f1 ∧ y.f1 ≤ 9223372036854775807
def Ok (n : S32) : Prop := ∀ y ∈ n.f3, OkD y
theorem decright_ev (y : S40) (h : OkD y) : ∃ v, Ev (fun k => Xae.f k y.f0 y.f1) v := by
 have hn : ∃ v, Ev (fun k => Xai.f k y.f0 y.f1) v := by
  by_cases h0 : y.f0 = 0
  ·simp only [Xai.f, if_pos h0]; exact ⟨_, Ev.const _⟩
  ·simp only [Xai.f, if_neg h0]; exact norm_ev _ y.f0 y.f1 h.1 h.2 (Nat.le_refl _)
 obtain ⟨⟨a, b, c⟩, hv⟩ := hn
 cases c with
 | true => exact ⟨_, Ev.bind hv (Ev.const _)⟩
 | false => exact ⟨_, Ev.bind hv (Ev.const _)⟩
theorem decs_ev (l : List S40) (ok : ∀ y ∈ l, OkD y) (hl : l.length ≤ 9223372036854775807) : ∀ d i, i ≤ l.length → l.length - i = d → ∃ v, Ev (fun k => Xav.l0 k l (l.length : Int) (i : Int)) v := by
 intro d
 induction d with
 | zero =>
  intro i h1 h2
  refine ⟨false, Ev.succ ?_⟩
  simp only [Xav.l0, if_neg (show ¬ ((i : Int) < (l.length : Int)) by omega)]
  exact Ev.const _
 | succ d ih =>
  intro i h1 h2
  have hi : i < l.length := by omega
  have hr : Xv l (i : Int) = l[i] := by
   unfold Xv
   rw [List.getD_eq_getElem?_getD, Int.toNat_natCast, List.getElem?_eq_getElem hi]; rfl
  obtain ⟨t, ht⟩ := decright_ev (Xv l (i : Int)) (by rw [hr]; exact ok _ (List.getElem_mem _))
  obtain ⟨v, hv⟩ := ih (i + 1) (by omega) (by omega)
  cases t with
  | true =>
   refine ⟨v, Ev.succ ?_⟩
   simp only [Xav.l0, if_pos (show ((i : Int) < (l.length : Int)) by omega), if_pos (show (0 : Int) ≤ (i : Int) by omega), ix hi hl]
   exact Ev.bind ht hv
  | false =>
   refine ⟨true, Ev.succ ?_⟩
   simp only [Xav.l0, if_pos (show ((i : Int) < (l.length : Int)) by omega), if_pos (show (0 : Int) ≤ (i : Int) by omega)]
   exact Ev.bind ht (Ev.const _)
theorem items1_ev (x3 x5 x6 a a' : Int) (b c : List Int) (e : List S40) (ok : ∀ y ∈ e, OkD y) (h0 : 0 ≤ x3) (h1 : x3 ≤ 1048576) (h5 : x5 ≤ 1048576) (h6 : x6 ≤ 1048576) :
  ∃ v, Ev (fun k => Xu.j1 k x3 x5 x6 a a' b c e) v ∧ (v = -1 ∨ (v = x3 ∧ (c.length : Int) = x5 ∧ (e.length : Int) = x6)) := by
 by_cases g1 : (c.length : Int) = x5
 ·by_cases g2 : (e.length : Int) = x6
  ·obtain ⟨t, ht⟩ := wrongs_ev c a (by omega) c.length 0 (by omega) (by omega)
   obtain ⟨s, hs⟩ := decs_ev e ok (by omega) e.length 0 (by omega) (by omega)
   cases t with
   | true =>
    refine ⟨-1, Ev.succ ?_, .inl rfl⟩
    simp only [Xu.j1, if_pos g1, if_pos g2, X5.f]
    exact Ev.bind ht (Ev.const _)
   | false =>
    cases s with
    | true =>
     refine ⟨-1, Ev.succ ?_, .inl rfl⟩
     simp only [Xu.j1, if_pos g1, if_pos g2, X5.f, Xav.f]
     exact Ev.bind ht (Ev.bind hs (Ev.const _))
    | false =>
     refine ⟨x3, Ev.succ ?_, .inr ⟨rfl, g1, g2⟩⟩
     simp only [Xu.j1, if_pos g1, if_pos g2, X5.f, Xav.f]
     exact Ev.bind ht (Ev.bind hs (Ev.const _))
  ·refine ⟨-1, Ev.succ ?_, .inl rfl⟩
   simp only [Xu.j1, if_pos g1, if_neg g2]; exact Ev.const _
 ·refine ⟨-1, Ev.succ ?_, .inl rfl⟩
  simp only [Xu.j1, if_neg g1]; exact Ev.const _
theorem items0_ev (x3 a a' : Int) (t : Bool) (b c : List Int) (e : List S40) (ok : ∀ y ∈ e, OkD y) (h0 : 0 ≤ x3) (h1 : x3 ≤ 1048576) :
  ∃ v, Ev (fun k => Xu.j0 k x3 0 0 a t a' b c e) v ∧ (v = -1 ∨ (v = x3 ∧ (a = 5 → t = false → c = [] ∧ e = []) ∧ (a ≠ 5 → v ≤ (c.length : Int) ∨ v ≤ (e.length : Int)))) := by
 cases t with
 | true =>
  obtain ⟨v, hv, hb⟩ := items1_ev x3 x3 0 a a' b c e ok h0 h1 h1 (by omega)
  exact ⟨v, Ev.succ (by simp only [Xu.j0]; exact hv), hb.imp id fun h => ⟨h.1, fun _ h' => by simp at h', fun _ => .inl (by omega)⟩⟩
 | false =>
  by_cases g1 : a = 4
  ·obtain ⟨v, hv, hb⟩ := items1_ev x3 0 x3 a a' b c e ok h0 h1 (by omega) h1
   exact ⟨v, Ev.succ (by simp only [Xu.j0, if_pos g1]; exact hv), hb.imp id fun h => ⟨h.1, fun h' _ => by omega, fun _ => .inr (by omega)⟩⟩
  ·by_cases g2 : a = 5
   ·obtain ⟨v, hv, hb⟩ := items1_ev x3 0 0 a a' b c e ok h0 h1 (by omega) (by omega)
    exact ⟨v, Ev.succ (by simp only [Xu.j0, if_neg g1, if_pos g2]; exact hv), hb.imp id fun h => ⟨h.1, fun _ _ => ⟨List.eq_nil_of_length_eq_zero (by omega), List.eq_nil_of_length_eq_zero (by omega)⟩, fun h' => absurd g2 h'⟩⟩
   ·exact ⟨-1, Ev.succ (by simp only [Xu.j0, if_neg g1, if_neg g2]; exact Ev.const _), .inl rfl⟩
def Spec (n : S32) (v : Int) : Prop := Ev (fun k => X3.f k n.f1) (v, true) ∧ 0 ≤ v ∧ v ≤ 1048576 ∧ (n.f0 = 5 → n.f2 = [] ∧ n.f3 = []) ∧ (n.f0 ≠ 5 → v ≤ (n.f2.length : Int) ∨ v ≤ (n.f3.length : Int))
theorem items_ev (n : S32) (ok : Ok n) : ∃ v, Ev (fun k => Xu.f k n.f0 n.f1 n.f2 n.f3) v ∧ (v = -1 ∨ Spec n v) := by
 obtain ⟨c, b, hc, h0, h1⟩ := count_ev n.f1
 cases b with
 | true =>
  have hr : ∃ v, Ev (fun k => (if n.f0 = 1 then (Xu.j0 k c 0 0 n.f0 (n.f0 == 1) n.f0 n.f1 n.f2 n.f3) else (if n.f0 = 2 then (Xu.j0 k c 0 0 n.f0 (n.f0 == 2) n.f0 n.f1 n.f2 n.f3) else (Xu.j0 k c 0 0 n.f0 (n.f0 == 3) n.f0 n.f1 n.f2 n.f3)))) v ∧ (v = -1 ∨ (v = c ∧ (n.f0 = 5 → n.f2 = [] ∧ n.f3 = []) ∧ (n.f0 ≠ 5 → v ≤ (n.f2.length : Int) ∨ v ≤ (n.f3.length : Int)))) := by
   by_cases g1 : n.f0 = 1
   ·simp only [if_pos g1]
    obtain ⟨v, hv, hb⟩ := items0_ev c n.f0 n.f0 (n.f0 == 1) n.f1 n.f2 n.f3 ok h0 h1
    exact ⟨v, hv, hb.imp id fun h => ⟨h.1, fun h' => by omega, h.2.2⟩⟩
   ·by_cases g2 : n.f0 = 2
    ·simp only [if_neg g1, if_pos g2]
     obtain ⟨v, hv, hb⟩ := items0_ev c n.f0 n.f0 (n.f0 == 2) n.f1 n.f2 n.f3 ok h0 h1
     exact ⟨v, hv, hb.imp id fun h => ⟨h.1, fun h' => by omega, h.2.2⟩⟩
    ·simp only [if_neg g1, if_neg g2]
     obtain ⟨v, hv, hb⟩ := items0_ev c n.f0 n.f0 (n.f0 == 3) n.f1 n.f2 n.f3 ok h0 h1
     exact ⟨v, hv, hb.imp id fun h => ⟨h.1, fun h' => h.2.1 h' (beq_eq_false_iff_ne.mpr (by omega)), h.2.2⟩⟩
  obtain ⟨v, hv, hb⟩ := hr
  refine ⟨v, ?_, hb.imp id fun h => ?_⟩
  ·simp only [Xu.f]
   exact Ev.bind hc hv
  ·refine ⟨by rw [h.1]; exact hc, by rw [h.1]; exact h0, by rw [h.1]; exact h1, h.2⟩
 | false =>
  refine ⟨-1, ?_, .inl rfl⟩
  simp only [Xu.f]
  exact Ev.bind hc (Ev.const _)
noncomputable def itm (n : S32) : Int := open Classical in if h : ∃ v, Ev (fun k => Xu.f k n.f0 n.f1 n.f2 n.f3) v ∧ (v = -1 ∨ Spec n v) then h.choose else -1
theorem itm_le (n : S32) : itm n ≤ 1048576 := by
 unfold itm
 split
 ·next h =>
  rcases h.choose_spec.2 with e | e
  ·omega
  ·exact e.2.2.1
 ·omega
theorem itm_said (n : S32) (ok : Ok n) : Ev (fun k => Xu.f k n.f0 n.f1 n.f2 n.f3) (itm n) ∧ (itm n = -1 ∨ Spec n (itm n)) := by
 obtain ⟨v, hv, hb⟩ := items_ev n ok
 have h : ∃ v, Ev (fun k => Xu.f k n.f0 n.f1 n.f2 n.f3) v ∧ (v = -1 ∨ Spec n v) := ⟨v, hv, hb⟩
 have e : itm n = v := by
  unfold itm
  rw [dif_pos h]
  exact Ev.uniq h.choose_spec.1 hv
 rw [e]
 exact ⟨hv, hb⟩
theorem itm_ev (n : S32) (ok : Ok n) : Ev (fun k => Xu.f k n.f0 n.f1 n.f2 n.f3) (itm n) ∧ -1 ≤ itm n ∧ itm n ≤ 1048576 := by
 obtain ⟨h, hb⟩ := itm_said n ok
 refine ⟨h, ?_⟩
 rcases hb with e | e
 ·omega
 ·have := e.2.1
  have := e.2.2.1
  omega
def dec1 (v : Int) : Int := wrap64 (v - 1)
def decT : List Int → List Int
 | [] => []
 | x :: s => dec1 x :: s
theorem Xdo (s : List Int) : (decT s).length = s.length := by cases s <;> rfl
def clrN : Nat → List Int → List Int
 | 0, s => s
 | _ + 1, [] => []
 | n + 1, x :: s => if x = 0 then clrN n (decT s) else x :: s
def clr (s : List Int) : List Int := clrN s.length s
theorem clr_nil : clr [] = [] := rfl
theorem Xdu (x : Int) (s : List Int) : clr (x :: s) = if x = 0 then clr (decT s) else x :: s := by
 unfold clr
 rw [Xdo]; rfl
theorem clr_length : ∀ (n : Nat) (s : List Int), s.length ≤ n → (clr s).length ≤ s.length := by
 intro n
 induction n with
 | zero =>
  intro s hs
  obtain rfl := List.eq_nil_of_length_eq_zero (Nat.le_zero.1 hs)
  exact Nat.le_refl _
 | succ n ih =>
  intro s hs
  cases s with
  | nil => exact Nat.le_refl _
  | cons x s =>
   rw [Xdu]
   split
   ·have := ih (decT s) (by rw [Xdo]; simp only [List.length_cons] at hs; omega)
    rw [Xdo] at this
    simp only [List.length_cons]; omega
   ·exact Nat.le_refl _
noncomputable def Xdl (st : List Int) (n : S32) : List Int := if n.f0 = 5 then itm n :: st else decT st
theorem push_length (st : List Int) (n : S32) : (Xdl st n).length ≤ st.length + 1 := by
 unfold Xdl
 split
 ·exact Nat.le_refl _
 ·rw [Xdo]; omega
open Classical in
noncomputable def Xcv : Int → Int → List Int → Int → List S32 → Int × Int × Int
 | _, _, _, _, [] => (0, 0, 0)
 | all, deep, st, i, n :: r =>
  if itm n < 0 ∨ wrap64 (all + itm n) > 1048576 ∨ 16 ≤ st.length then (0, 0, 0)
  else if clr (Xdl st n) = [] then (i + 1, wrap64 (all + itm n), mx deep (wrap64 ((st.length : Int) + 1)))
  else Xcv (wrap64 (all + itm n)) (mx deep (wrap64 ((st.length : Int) + 1))) (clr (Xdl st n)) (i + 1) r
theorem last_ix {n : Nat} (h : 0 < n) (hn : n ≤ 9223372036854775807) : wrap64 ((n : Int) - 1) = ((n - 1 : Nat) : Int) := by rw [w64 (by omega) (by omega)]; omega
theorem rev_last (x : Int) (s : List Int) : rd (x :: s).reverse ((s.length : Nat) : Int) = x := by
 rw [Xdq _ _ (by simp)]
 simp
theorem rev_set (x v : Int) (s : List Int) : (x :: s).reverse.set s.length v = (v :: s).reverse := by
 simp only [List.reverse_cons]
 rw [List.set_append_right _ _ (by simp)]
 simp
theorem rev_take (x : Int) (s : List Int) : (x :: s).reverse.take s.length = s.reverse := by
 rw [List.reverse_cons]
 rw [List.take_append_of_le_length (by simp)]
 exact List.take_of_length_le (by simp)
theorem pop_ev (all deep i6 : Int) (x9 : List S32) (x10 x11 : Int) (v : Int × Int × Int) : ∀ (n : Nat) (st : List Int), st.length ≤ n → st.length ≤ 100 →
  Ev (fun k => Xo.j4 k all deep (clr st).reverse i6 x9 x10 x11 false) v → Ev (fun k => Xo.l1 k all deep st.reverse i6 x9 x10 x11) v := by
 intro n
 induction n with
 | zero =>
  intro st hs hc h
  obtain rfl := List.eq_nil_of_length_eq_zero (Nat.le_zero.1 hs)
  refine Ev.succ ?_
  simp only [Xo.l1, List.reverse_nil, List.length_nil, if_neg (show ¬ (((0 : Nat) : Int) > 0) by decide)]
  exact h
 | succ n ih =>
  intro st hs hc h
  cases st with
  | nil =>
   refine Ev.succ ?_
   simp only [Xo.l1, List.reverse_nil, List.length_nil, if_neg (show ¬ (((0 : Nat) : Int) > 0) by decide)]
   exact h
  | cons x s =>
   simp only [List.length_cons] at hs hc
   have hL : (x :: s).reverse.length = s.length + 1 := by simp
   have hw : wrap64 (((s.length + 1 : Nat) : Int) - 1) = ((s.length : Nat) : Int) := last_ix (by omega) (by omega)
   refine Ev.succ ?_
   simp only [Xo.l1, hL, hw, if_pos (show (((s.length + 1 : Nat) : Int) > 0) by omega), if_pos (show (0 : Int) ≤ ((s.length : Nat) : Int) by omega), if_pos (show ((s.length : Nat) : Int) < ((s.length + 1 : Nat) : Int) by omega), rev_last]
   rw [Xdu] at h
   by_cases e : x = 0
   ·rw [if_pos e] at h
    subst e
    refine Ev.succ ?_
    simp only [Xo.j4, hL, hw, BEq.rfl, if_true, if_pos (show (0 : Int) ≤ ((s.length : Nat) : Int) by omega), if_pos (show ((s.length : Nat) : Int) ≤ ((s.length + 1 : Nat) : Int) by omega), Int.toNat_natCast, rev_take, Option.bind_some, List.length_reverse]
    cases s with
    | nil =>
     simp only [List.length_nil, if_neg (show ¬ (((0 : Nat) : Int) > 0) by decide)]
     exact ih [] (by simp) (by simp) h
    | cons y s =>
     have hw2 : wrap64 (((s.length + 1 : Nat) : Int) - 1) = ((s.length : Nat) : Int) := last_ix (by omega) (by simp only [List.length_cons] at hc; omega)
     simp only [List.length_cons, hw2, if_pos (show (((s.length + 1 : Nat) : Int) > 0) by omega), if_pos (show (0 : Int) ≤ ((s.length : Nat) : Int) by omega), if_pos (show ((s.length : Nat) : Int) < ((s.length + 1 : Nat) : Int) by omega), rev_last, Int.toNat_natCast, rev_set]
     exact ih (dec1 y :: s) (by simp only [List.length_cons] at hs ⊢; omega) (by simp only [List.length_cons] at hc ⊢; omega) h
   ·rw [if_neg e] at h
    rw [show (x == 0) = false from beq_eq_false_iff_ne.mpr e]
    exact h
theorem walk_ev (l : List S32) (ok : ∀ n ∈ l, Ok n) (hl : l.length ≤ 9223372036854775807) : ∀ d i, i ≤ l.length → l.length - i = d → ∀ (all deep : Int) (st : List Int), st.length ≤ 17 →
    Ev (fun k => Xo.l0 k all deep st.reverse l (l.length : Int) (i : Int)) (Xcv all deep st (i : Int) (l.drop i)) := by
  intro d
  induction d with
  | zero =>
    intro i h1 h2 all deep st hs
    have hd : l.drop i = [] := List.drop_eq_nil_of_le (by omega)
    rw [hd]
    refine Ev.succ ?_
    simp only [Xo.l0, if_neg (show ¬ ((i : Int) < (l.length : Int)) by omega)]
    exact Ev.const _
  | succ d ih =>
    intro i h1 h2 all deep st hs
    have hi : i < l.length := by omega
    have hd : l.drop i = l[i] :: l.drop (i + 1) := (List.drop_eq_getElem_cons hi)
    rw [hd]
    generalize hn : l[i] = n
    have okn : Ok n := by rw [← hn]; exact ok _ (List.getElem_mem _)
    obtain ⟨hit, hb0, hb1⟩ := itm_ev n okn
    have hrd : Xa l (i : Int) = n := by rw [rdT_at l i hi, hn]
    have hfail : ∀ (a b : Int), Ev (fun k => Xo.j1 k (wrap64 (all + itm n)) deep st.reverse (i : Int) (itm n) l (l.length : Int) (i : Int) true n.f0 n.f1 n.f2 n.f3) (0, 0, 0) := fun _ _ => Ev.succ (by simp only [Xo.j1]; exact Ev.const _)
    have hgo : st.length < 16 → Ev (fun k => Xo.j2 k (wrap64 (all + itm n)) (mx deep (wrap64 ((st.length : Int) + 1))) (Xdl st n).reverse (i : Int) l (l.length : Int) (i : Int))
        (if clr (Xdl st n) = [] then ((i : Int) + 1, wrap64 (all + itm n), mx deep (wrap64 ((st.length : Int) + 1))) else Xcv (wrap64 (all + itm n)) (mx deep (wrap64 ((st.length : Int) + 1))) (clr (Xdl st n)) ((i : Int) + 1) (l.drop (i + 1))) := by
      intro hst
      refine Ev.succ ?_
      simp only [Xo.j2]
      have hp := push_length st n
      refine pop_ev _ _ _ _ _ _ _ (Xdl st n).length (Xdl st n) (Nat.le_refl _) (by omega) ?_
      refine Ev.succ ?_
      simp only [Xo.j4, Bool.false_eq_true, if_false, List.length_reverse]
      have hcl := clr_length (Xdl st n).length (Xdl st n) (Nat.le_refl _)
      by_cases e : clr (Xdl st n) = []
      · simp only [e, List.length_nil, if_pos (show (((0 : Nat) : Int)) = 0 by rfl), if_true]
        rw [show wrap64 ((i : Int) + 1) = (i : Int) + 1 by rw [ix hi hl]; omega]
        exact Ev.const _
      · have hz : ¬ (((clr (Xdl st n)).length : Int) = 0) := fun h0 => e (List.eq_nil_of_length_eq_zero (by omega))
        simp only [if_neg e, if_neg hz, ix hi hl]
        have hi1 : ((i : Int) + 1) = ((i + 1 : Nat) : Int) := by omega
        rw [hi1]
        exact ih (i + 1) (by omega) (by omega) _ _ _ (by omega)
    refine Ev.succ ?_
    simp only [Xo.l0, if_pos (show ((i : Int) < (l.length : Int)) by omega), if_pos (show (0 : Int) ≤ (i : Int) by omega), hrd]
    refine Ev.bind hit ?_
    by_cases g1 : itm n < 0
    · simp only [Xcv, if_pos g1, if_pos (show itm n < 0 ∨ wrap64 (all + itm n) > 1048576 ∨ 16 ≤ st.length from .inl g1)]
      exact hfail 0 0
    · by_cases g2 : wrap64 (all + itm n) > 1048576
      · simp only [Xcv, if_neg g1, if_pos g2, if_pos (show itm n < 0 ∨ wrap64 (all + itm n) > 1048576 ∨ 16 ≤ st.length from .inr (.inl g2))]
        exact hfail 0 0
      · simp only [if_neg g1, if_neg g2, List.length_reverse]
        by_cases g3 : 16 ≤ st.length
        · simp only [Xcv, if_pos (show itm n < 0 ∨ wrap64 (all + itm n) > 1048576 ∨ 16 ≤ st.length from .inr (.inr g3)), decide_eq_true (show ((st.length : Int) ≥ 16) by omega)]
          exact hfail 0 0
        · simp only [Xcv, if_neg (show ¬ (itm n < 0 ∨ wrap64 (all + itm n) > 1048576 ∨ 16 ≤ st.length) from fun h => h.elim g1 fun h => h.elim g2 g3), decide_eq_false (show ¬ ((st.length : Int) ≥ 16) by omega)]
          refine Ev.succ ?_
          simp only [Xo.j1, Bool.false_eq_true, if_false, List.length_reverse]
          replace hgo := hgo (by omega)
          unfold Xdl at hgo
          by_cases g5 : n.f0 = 5
          · simp only [if_pos g5] at hgo
            simp only [if_pos g5, if_pos (show st.length < 17592186044416 by omega)]
            unfold Xdl
            simp only [if_pos g5]
            rw [List.reverse_cons] at hgo
            exact hgo
          · simp only [if_neg g5] at hgo ⊢
            unfold Xdl
            simp only [if_neg g5]
            cases st with
            | nil => exact hgo
            | cons x s =>
              have hw : wrap64 (((s.length + 1 : Nat) : Int) - 1) = ((s.length : Nat) : Int) := last_ix (by omega) (by simp only [List.length_cons] at hs; omega)
              simp only [List.length_cons, hw, if_pos (show (((s.length + 1 : Nat) : Int) > 0) by omega), if_pos (show (0 : Int) ≤ ((s.length : Nat) : Int) by omega), if_pos (show ((s.length : Nat) : Int) < ((s.length + 1 : Nat) : Int) by omega), rev_last, Int.toNat_natCast, rev_set]
              simp only [List.length_cons] at hgo
              exact hgo
noncomputable def tk (l : List S32) : Int := (Xcv 0 0 [] 0 l).1
theorem walkf_ev (l : List S32) (ok : ∀ n ∈ l, Ok n) (hl : l.length ≤ 9223372036854775807) : Ev (fun k => Xo.f k l) (Xcv 0 0 [] 0 l) := by
 have := walk_ev l ok hl l.length 0 (by omega) (by omega) 0 0 [] (by simp)
 simp only [Xo.f]
 exact this
theorem take_ev (l : List S32) (ok : ∀ n ∈ l, Ok n) (hl : l.length ≤ 9223372036854775807) : Ev (fun k => Xb5.f k l) (tk l) := by
 simp only [Xb5.f]
 exact Ev.bind (walkf_ev l ok hl) (Ev.const _)
noncomputable def rt (l : List S32) : Bool := if (l.length : Int) > 0 then (tk l == (l.length : Int)) else false
theorem right_ev (l : List S32) (ok : ∀ n ∈ l, Ok n) (hl : l.length ≤ 9223372036854775807) : Ev (fun k => Xbj.f k l) (rt l) := by
 unfold rt
 by_cases h : (l.length : Int) > 0
 ·simp only [Xbj.f, if_pos h]
  exact Ev.bind (take_ev l ok hl) (Ev.const _)
 ·simp only [Xbj.f, if_neg h]
  exact Ev.const _
def Fits (n : S32) : Prop := n.f1.length ≤ 30 ∧ n.f2.length ≤ 300 ∧ n.f3.length ≤ 300
namespace Sh
theorem w64 {n : Int} (h1 : -9223372036854775808 ≤ n) (h2 : n ≤ 9223372036854775807) : wrap64 n = n := by unfold wrap64; omega
theorem Xdq (b : List Int) (m : Nat) (h : m < b.length) : rd b (m : Int) = b[m] := by
 unfold rd
 rw [List.getD_eq_getElem?_getD, Int.toNat_natCast, List.getElem?_eq_getElem h]; rfl
theorem up64 (m : Nat) (h : m ≤ 1000000) : wrap64 ((m : Int) + 1) = ((m + 1 : Nat) : Int) := by rw [w64 (by omega) (by omega)]; omega
def bad (x : Int) : Bool := decide (x < 0 ∨ 1048576 < x)
def isz (x : Int) : Bool := decide (0 = x)
def P : List Int → Int
 | [] => 1
 | x :: r => x * P r
def cnt2 (s : List Int) : Int × Bool := if s.any bad = true then (0, false) else if s.any isz = true then (0, true) else if P s ≤ 1048576 then (P s, true) else (0, false)
def cnt (s : List Int) : Int × Bool := if s.length > 16 then (0, false) else cnt2 s
theorem one_f (a : Int) : Xb0.f a = some (bad a) := by
 unfold Xb0.f bad
 by_cases c : a < 0
 ·rw [if_pos c]; simp [c]
 ·rw [if_neg c]; simp [c]
theorem ifunc_loop (s : List Int) (hl : s.length ≤ 1000) (d : Nat) : ∀ (K m : Nat), m ≤ s.length → s.length - m = d → d + 1 ≤ K → ∃ r : Int, Xq.l0 K s (s.length : Int) (m : Int) = some r ∧ decide (r ≥ 0) = (s.drop m).any bad := by
 induction d with
 | zero =>
  intro K m h1 h2 h3
  obtain ⟨K, rfl⟩ : ∃ q, K = q + 1 := ⟨K - 1, by omega⟩
  refine ⟨-1, ?_, ?_⟩
  ·simp only [Xq.l0]; rw [if_neg (by omega)]
  ·rw [List.drop_eq_nil_of_le (by omega)]; rfl
 | succ d ih =>
  intro K m h1 h2 h3
  obtain ⟨K, rfl⟩ : ∃ q, K = q + 1 := ⟨K - 1, by omega⟩
  have c : m < s.length := by omega
  rw [List.drop_eq_getElem_cons c, List.any_cons]
  simp only [Xq.l0]
  rw [if_pos (by omega), if_pos (by omega), if_pos (by omega), Xdq s m c, one_f]
  simp only [Option.bind_some]
  by_cases g : bad s[m] = true
  ·rw [if_pos g]
   exact ⟨m, rfl, by rw [g]; simp⟩
  ·rw [if_neg g, up64 m (by omega)]
   obtain ⟨r, e1, e2⟩ := ih K (m + 1) (by omega) (by omega) (by omega)
   exact ⟨r, e1, by rw [e2, Bool.eq_false_iff.2 g]; rfl⟩
theorem cfunc_eq (s : List Int) (hl : s.length ≤ 1000) (K : Nat) (hK : s.length + 1 ≤ K) : Xao.f K s = some (s.any bad) := by
 obtain ⟨r, e1, e2⟩ := ifunc_loop s hl s.length K 0 (by omega) (by omega) hK
 unfold Xao.f Xq.f
 rw [show (0 : Int) = ((0 : Nat) : Int) from rfl, e1]
 rw [List.drop_zero] at e2
 simp only [Option.bind_some]
 rw [← e2]; rfl
theorem index_loop (s : List Int) (hl : s.length ≤ 1000) (d : Nat) : ∀ (K m : Nat), m ≤ s.length → s.length - m = d → d + 1 ≤ K → ∃ r : Int, Xw.l0 K s 0 (s.length : Int) (m : Int) = some r ∧ decide (r ≥ 0) = (s.drop m).any isz := by
 induction d with
 | zero =>
  intro K m h1 h2 h3
  obtain ⟨K, rfl⟩ : ∃ q, K = q + 1 := ⟨K - 1, by omega⟩
  refine ⟨-1, ?_, ?_⟩
  ·simp only [Xw.l0]; rw [if_neg (by omega)]
  ·rw [List.drop_eq_nil_of_le (by omega)]; rfl
 | succ d ih =>
  intro K m h1 h2 h3
  obtain ⟨K, rfl⟩ : ∃ q, K = q + 1 := ⟨K - 1, by omega⟩
  have c : m < s.length := by omega
  rw [List.drop_eq_getElem_cons c, List.any_cons]
  simp only [Xw.l0]
  rw [if_pos (by omega), if_pos (by omega), if_pos (by omega), Xdq s m c]
  by_cases g : 0 = s[m]
  ·rw [if_pos g]
   exact ⟨m, rfl, by unfold isz; rw [decide_eq_true g]; simp⟩
  ·rw [if_neg g, up64 m (by omega)]
   obtain ⟨r, e1, e2⟩ := ih K (m + 1) (by omega) (by omega) (by omega)
   exact ⟨r, e1, by unfold isz at e2 ⊢; rw [e2, decide_eq_false g]; rfl⟩
theorem cont_eq (s : List Int) (hl : s.length ≤ 1000) (K : Nat) (hK : s.length + 1 ≤ K) : Xaq.f K s 0 = some (s.any isz) := by
 obtain ⟨r, e1, e2⟩ := index_loop s hl s.length K 0 (by omega) (by omega) hK
 unfold Xaq.f Xw.f
 rw [show Xw.l0 K s 0 (s.length : Int) 0 = some r from e1]
 rw [List.drop_zero] at e2
 simp only [Option.bind_some]
 rw [← e2]
def good (s : List Int) : Prop := ∀ x ∈ s, 1 ≤ x ∧ x ≤ 1048576
theorem good_of (s : List Int) (h1 : ¬ s.any bad = true) (h2 : ¬ s.any isz = true) : good s := by
 intro x hx
 have a1 : ¬ bad x = true := fun h => h1 (List.any_eq_true.2 ⟨x, hx, h⟩)
 have a2 : ¬ isz x = true := fun h => h2 (List.any_eq_true.2 ⟨x, hx, h⟩)
 unfold bad at a1; unfold isz at a2
 simp only [decide_eq_true_eq] at a1 a2
 omega
theorem P_pos : ∀ (s : List Int), good s → 1 ≤ P s
 | [], _ => by unfold P; omega
 | x :: r, h => by
  have h1 := h x (by simp)
  have h2 := P_pos r (fun y hy => h y (by simp [hy]))
  unfold P
  have := Int.mul_le_mul h1.1 h2 (by omega) (by omega)
  omega
theorem good_drop {s : List Int} (h : good s) (m : Nat) : good (s.drop m) := fun x hx => h x (List.mem_of_mem_drop hx)
theorem mul_small {a x : Int} (h1 : 1 ≤ a) (h2 : a ≤ 1048576) (h3 : 1 ≤ x) (h4 : x ≤ 1048576) : 1 ≤ a * x ∧ a * x ≤ 1099511627776 := by
 have := Int.mul_le_mul h1 h3 (by omega) (by omega)
 have := Int.mul_le_mul h2 h4 (by omega) (by omega)
 omega
theorem count_loop (s : List Int) (hs : good s) (hl : s.length ≤ 1000) (d : Nat) : ∀ (K m : Nat) (acc : Int), m ≤ s.length → s.length - m = d → d + 1 ≤ K → 1 ≤ acc → acc ≤ 1048576 →
  X3.l0 K acc s (s.length : Int) (m : Int) = some (if acc * P (s.drop m) ≤ 1048576 then (acc * P (s.drop m), true) else (0, false)) := by
 induction d with
 | zero =>
  intro K m acc h1 h2 h3 h4 h5
  obtain ⟨K, rfl⟩ : ∃ q, K = q + 1 := ⟨K - 1, by omega⟩
  simp only [X3.l0]
  rw [if_neg (by omega), List.drop_eq_nil_of_le (by omega), show acc * P [] = acc from by unfold P; omega, if_pos h5]
 | succ d ih =>
  intro K m acc h1 h2 h3 h4 h5
  obtain ⟨K, rfl⟩ : ∃ q, K = q + 1 := ⟨K - 1, by omega⟩
  have c : m < s.length := by omega
  have hx := hs _ (List.getElem_mem c)
  have hm := mul_small h4 h5 hx.1 hx.2
  have hp := P_pos (s.drop (m + 1)) (good_drop hs _)
  simp only [X3.l0]
  rw [if_pos (by omega), if_pos (by omega), if_pos (by omega), Xdq s m c, w64 (n := acc * s[m]) (by omega) (by omega), one_f, List.drop_eq_getElem_cons c, up64 m (by omega), show acc * P (s[m] :: s.drop (m + 1)) = acc * s[m] * P (s.drop (m + 1)) by rw [P, Int.mul_assoc]]
  simp only [Option.bind_some]
  by_cases g : acc * s[m] ≤ 1048576
  ·rw [if_neg (by unfold bad; simp only [decide_eq_true_eq]; omega), ih K (m + 1) _ (by omega) (by omega) (by omega) hm.1 g]
  ·rw [if_pos (by unfold bad; simp only [decide_eq_true_eq]; omega)]
   have := Int.mul_le_mul (show acc * s[m] ≤ acc * s[m] by omega) hp (by omega) (by omega)
   rw [if_neg (by omega)]
theorem count_eq (s : List Int) (K : Nat) (hK : 40 ≤ K) : X3.f K s = some (cnt s) := by
 unfold X3.f cnt
 obtain ⟨K, rfl⟩ : ∃ q, K = q + 1 := ⟨K - 1, by omega⟩
 by_cases c : s.length > 16
 ·rw [if_pos (by omega), if_pos c]
  simp only [X3.j0]
  rw [if_pos trivial]
 ·rw [if_neg (by omega), if_neg c, cfunc_eq s (by omega) _ (by omega)]
  simp only [Option.bind_some, X3.j0]
  unfold cnt2
  by_cases h1 : s.any bad = true
  ·rw [if_pos h1, if_pos h1]
  ·rw [if_neg h1, if_neg h1, cont_eq s (by omega) _ (by omega)]
   simp only [Option.bind_some]
   by_cases h2 : s.any isz = true
   ·rw [if_pos h2, if_pos h2]
   ·rw [if_neg h2, if_neg h2]
    have := count_loop s (good_of s h1 h2) (by omega) s.length K 0 1 (by omega) (by omega) (by omega) (by omega) (by omega)
    rw [List.drop_zero, Int.one_mul] at this
    exact this
theorem take_snoc {l : List Int} {m : Nat} (h : m < l.length) : l.take (m + 1) = l.take m ++ [l[m]] := by simp
theorem rcount_loop1 (s : List Int) (hs : good s) (hl : s.length ≤ 1000) (d : Nat) : ∀ (K m : Nat) (acc : Int), m ≤ s.length → s.length - m = d → d + 1 ≤ K → 1 ≤ acc → acc ≤ 1048576 →
  Xl.l1 K s acc (m : Int) = some (if acc * P (s.drop m) ≤ 1048576 then (acc * P (s.drop m), true) else (0, false)) := by
 induction d with
 | zero =>
  intro K m acc h1 h2 h3 h4 h5
  obtain ⟨K, rfl⟩ : ∃ q, K = q + 1 := ⟨K - 1, by omega⟩
  simp only [Xl.l1]
  rw [if_neg (by omega), List.drop_eq_nil_of_le (by omega), show acc * P [] = acc from by unfold P; omega, if_pos h5]
 | succ d ih =>
  intro K m acc h1 h2 h3 h4 h5
  obtain ⟨K, rfl⟩ : ∃ q, K = q + 1 := ⟨K - 1, by omega⟩
  have c : m < s.length := by omega
  have hx := hs _ (List.getElem_mem c)
  have hm := mul_small h4 h5 hx.1 hx.2
  have hp := P_pos (s.drop (m + 1)) (good_drop hs _)
  simp only [Xl.l1]
  rw [if_pos (by omega), if_pos (by omega), Xdq s m c, w64 (n := acc * s[m]) (by omega) (by omega), List.drop_eq_getElem_cons c, up64 m (by omega), show acc * P (s[m] :: s.drop (m + 1)) = acc * s[m] * P (s.drop (m + 1)) by rw [P, Int.mul_assoc]]
  by_cases g : acc * s[m] ≤ 1048576
  ·rw [if_neg (by omega), ih K (m + 1) _ (by omega) (by omega) (by omega) hm.1 g]
  ·rw [if_pos (by omega)]
   have := Int.mul_le_mul (show acc * s[m] ≤ acc * s[m] by omega) hp (by omega) (by omega)
   rw [if_neg (by omega)]
end Sh
theorem cnt_ev (s : List Int) : Ev (fun k => X3.f k s) (Sh.cnt s) := ⟨40, fun k hk => Sh.count_eq s k hk⟩
def In64 (v : Int) : Prop := -9223372036854775808 ≤ v ∧ v ≤ 9223372036854775807
theorem andNot1 (v : Int) (h : In64 v) : ((Go.bits .andNot .i64 v 1) == 0) = (v == 0 || v == 1) := by
  obtain ⟨h1, h2⟩ := h
  have e : Go.bits .andNot .i64 v 1 = IntKind.i64.wrap (((v % 18446744073709551616).toNat / 2 * 2 : Nat) : Int) := by
    show IntKind.i64.wrap ((BitVec.ofInt 64 v &&& ~~~BitVec.ofInt 64 ((1 : Nat) : Int)).toNat : Int) = _
    rw [BitVec.toNat_and, BitVec.toNat_not, ofInt_u64 1 (by omega), BitVec.toNat_ofInt]
    have e1 : 2 ^ 64 - 1 - 1 = 18446744073709551614 := by decide
    rw [e1, nat_hi64_1, Nat.mod_eq_of_lt (by omega)]
    rfl
  rw [e]
  have e2 : IntKind.i64.wrap (((v % 18446744073709551616).toNat / 2 * 2 : Nat) : Int) = wrap64 (((v % 18446744073709551616).toNat / 2 * 2 : Nat) : Int) := Xbd _
  rw [e2]
  by_cases g : v = 0 ∨ v = 1
  · have z : wrap64 (((v % 18446744073709551616).toNat / 2 * 2 : Nat) : Int) = 0 := by
      unfold wrap64
      rcases g with rfl | rfl <;> omega
    rw [z]
    rcases g with rfl | rfl <;> rfl
  · have z : wrap64 (((v % 18446744073709551616).toNat / 2 * 2 : Nat) : Int) ≠ 0 := by
      unfold wrap64
      omega
    rw [beq_eq_false_iff_ne.mpr z, beq_eq_false_iff_ne.mpr (fun h => g (.inl h)), beq_eq_false_iff_ne.mpr (fun h => g (.inr h))]
    rfl
def okI (a v : Int) : Bool := if a = 1 then (v == 0 || v == 1) else if a = 2 then true else if a = 3 then decide (0 ≤ v ∧ v ≤ 1114111 ∧ ¬ (55296 ≤ v ∧ v ≤ 57343)) else false
theorem valid_val (a : Int) : Ev (fun k => Xaf.f k a) (decide (0 ≤ a ∧ a ≤ 1114111 ∧ ¬ (55296 ≤ a ∧ a ≤ 57343))) := by
 by_cases h : 0 ≤ a
 ·simp only [Xaf.f, if_pos h]
  refine Ev.succ ?_
  by_cases h2 : a < 55296
  ·rw [decide_eq_true (show 0 ≤ a ∧ a ≤ 1114111 ∧ ¬ (55296 ≤ a ∧ a ≤ 57343) by omega)]
   simp only [Xaf.j0, decide_eq_true h2, if_true]
   exact Ev.const _
  ·simp only [Xaf.j0, decide_eq_false h2, Bool.false_eq_true, if_false]
   by_cases h3 : 57343 < a
   ·by_cases h4 : a ≤ 1114111
    ·rw [decide_eq_true (show 0 ≤ a ∧ a ≤ 1114111 ∧ ¬ (55296 ≤ a ∧ a ≤ 57343) by omega)]
     simp only [if_pos h3, if_pos h4]; exact Ev.const _
    ·rw [decide_eq_false (show ¬ (0 ≤ a ∧ a ≤ 1114111 ∧ ¬ (55296 ≤ a ∧ a ≤ 57343)) by omega)]
     simp only [if_pos h3, if_neg h4]; exact Ev.const _
   ·rw [decide_eq_false (show ¬ (0 ≤ a ∧ a ≤ 1114111 ∧ ¬ (55296 ≤ a ∧ a ≤ 57343)) by omega)]
    simp only [if_neg h3]; exact Ev.const _
 ·simp only [Xaf.f, if_neg h]
  refine Ev.succ ?_
  rw [decide_eq_false (show ¬ (0 ≤ a ∧ a ≤ 1114111 ∧ ¬ (55296 ≤ a ∧ a ≤ 57343)) by omega)]
  simp only [Xaf.j0, Bool.false_eq_true, if_false, if_neg (show ¬ 57343 < a by omega)]
  exact Ev.const _
theorem fits_val (a v : Int) (hv : In64 v) : Ev (fun k => Xbn.f k a v) (okI a v) := by
  unfold okI
  by_cases h1 : a = 1
  · simp only [Xbn.f, if_pos h1, andNot1 v hv]; exact Ev.const _
  · by_cases h2 : a = 2
    · simp only [Xbn.f, if_neg h1, if_pos h2]; exact Ev.const _
    · by_cases h3 : a = 3
      · by_cases h4 : v = wrap64 (wrap32 v)
        · have e : wrap32 v = v := by
            have : wrap64 (wrap32 v) = wrap32 v := by unfold wrap64 wrap32; omega
            omega
          simp only [Xbn.f, if_neg h1, if_neg h2, if_pos h3, if_pos h4]
          simp only [e]
          exact Ev.bind (valid_val v) (Ev.const _)
        · simp only [Xbn.f, if_neg h1, if_neg h2, if_pos h3, if_neg h4]
          rw [decide_eq_false (show ¬ (0 ≤ v ∧ v ≤ 1114111 ∧ ¬ (55296 ≤ v ∧ v ≤ 57343)) by
            intro g
            apply h4
            unfold wrap64 wrap32; omega)]
          exact Ev.const _
      · simp only [Xbn.f, if_neg h1, if_neg h2, if_neg h3]; exact Ev.const _
theorem wrongs_val (l : List Int) (a : Int) (hl : l.length ≤ 9223372036854775807) (hr : ∀ v ∈ l, In64 v) : ∀ d i, i ≤ l.length → l.length - i = d → Ev (fun k => X5.l0 k a l (l.length : Int) (i : Int)) (!(l.drop i).all (okI a)) := by
 intro d
 induction d with
 | zero =>
  intro i h1 h2
  rw [List.drop_eq_nil_of_le (by omega)]
  refine Ev.succ ?_
  simp only [X5.l0, if_neg (show ¬ ((i : Int) < (l.length : Int)) by omega)]
  exact Ev.const _
 | succ d ih =>
  intro i h1 h2
  have hi : i < l.length := by omega
  have ht := fits_val a l[i] (hr _ (List.getElem_mem _))
  have hv := ih (i + 1) (by omega) (by omega)
  rw [List.drop_eq_getElem_cons hi, List.all_cons]
  refine Ev.succ ?_
  simp only [X5.l0, if_pos (show ((i : Int) < (l.length : Int)) by omega), if_pos (show (0 : Int) ≤ (i : Int) by omega), Xbr.f, ix hi hl, Xdq l i hi]
  refine Ev.bind (Ev.bind ht (Ev.const _)) ?_
  cases okI a l[i] with
  | true => exact hv
  | false => exact Ev.const _
noncomputable def dr (y : S40) : Bool := open Classical in if h : ∃ v, Ev (fun k => Xae.f k y.f0 y.f1) v then h.choose else false
theorem dr_ev (y : S40) (h : OkD y) : Ev (fun k => Xae.f k y.f0 y.f1) (dr y) := by
 have e := decright_ev y h
 unfold dr
 rw [dif_pos e]
 exact e.choose_spec
theorem Xek (b : List S40) (m : Nat) (h : m < b.length) : Xv b (m : Int) = b[m] := by
 unfold Xv
 rw [List.getD_eq_getElem?_getD, Int.toNat_natCast, List.getElem?_eq_getElem h]; rfl
theorem decs_val (l : List S40) (ok : ∀ y ∈ l, OkD y) (hl : l.length ≤ 9223372036854775807) : ∀ d i, i ≤ l.length → l.length - i = d → Ev (fun k => Xav.l0 k l (l.length : Int) (i : Int)) (!(l.drop i).all dr) := by
 intro d
 induction d with
 | zero =>
  intro i h1 h2
  rw [List.drop_eq_nil_of_le (by omega)]
  refine Ev.succ ?_
  simp only [Xav.l0, if_neg (show ¬ ((i : Int) < (l.length : Int)) by omega)]
  exact Ev.const _
 | succ d ih =>
  intro i h1 h2
  have hi : i < l.length := by omega
  have ht := dr_ev l[i] (ok _ (List.getElem_mem _))
  have hv := ih (i + 1) (by omega) (by omega)
  rw [List.drop_eq_getElem_cons hi, List.all_cons]
  refine Ev.succ ?_
  simp only [Xav.l0, if_pos (show ((i : Int) < (l.length : Int)) by omega), if_pos (show (0 : Int) ≤ (i : Int) by omega), ix hi hl, Xek l i hi]
  refine Ev.bind ht ?_
  cases dr l[i] with
  | true => exact hv
  | false => exact Ev.const _
noncomputable def gd (x5 x6 a : Int) (c : List Int) (e : List S40) : Bool := if (c.length : Int) = x5 then (if (e.length : Int) = x6 then (c.all (okI a) && e.all dr) else false) else false
theorem Xdi (x3 x5 x6 a a' : Int) (b c : List Int) (e : List S40) (ok : ∀ y ∈ e, OkD y) (hr : ∀ v ∈ c, In64 v) (hc : c.length ≤ 9223372036854775807) (he : e.length ≤ 9223372036854775807) :
  Ev (fun k => Xu.j1 k x3 x5 x6 a a' b c e) (if gd x5 x6 a c e = true then x3 else -1) := by
 have ht := wrongs_val c a hc hr c.length 0 (by omega) (by omega)
 have hs := decs_val e ok he e.length 0 (by omega) (by omega)
 rw [List.drop_zero] at ht hs
 unfold gd
 refine Ev.succ ?_
 by_cases g1 : (c.length : Int) = x5
 ·by_cases g2 : (e.length : Int) = x6
  ·simp only [Xu.j1, if_pos g1, if_pos g2, X5.f, Xav.f]
   refine Ev.bind ht ?_
   cases c.all (okI a) with
   | false => exact Ev.const _
   | true =>
    refine Ev.bind hs ?_
    cases e.all dr with
    | false => exact Ev.const _
    | true => exact Ev.const _
  ·simp only [Xu.j1, if_pos g1, if_neg g2]; exact Ev.const _
 ·simp only [Xu.j1, if_neg g1]; exact Ev.const _
noncomputable def gdK (a x3 : Int) (c : List Int) (e : List S40) : Bool := if a = 1 ∨ a = 2 ∨ a = 3 then gd x3 0 a c e else if a = 4 then gd 0 x3 a c e else if a = 5 then gd 0 0 a c e else false
def Ok3 (n : S32) : Prop := Ok n ∧ (∀ v ∈ n.f2, In64 v) ∧ n.f2.length ≤ 9223372036854775807 ∧ n.f3.length ≤ 9223372036854775807
theorem items_val (n : S32) (ok : Ok3 n) : Ev (fun k => Xu.f k n.f0 n.f1 n.f2 n.f3) (if (Sh.cnt n.f1).2 = true then (if gdK n.f0 (Sh.cnt n.f1).1 n.f2 n.f3 = true then (Sh.cnt n.f1).1 else -1) else -1) := by
 have hc := cnt_ev n.f1
 revert hc
 generalize Sh.cnt n.f1 = x
 intro hc
 obtain ⟨ok1, ok2, ok3, ok4⟩ := ok
 simp only [Xu.f]
 refine Ev.bind hc ?_
 cases x.2 with
 | false => exact Ev.const _
 | true =>
  simp only [if_true]
  unfold gdK
  by_cases g1 : n.f0 = 1
  ·simp only [if_pos g1, if_pos (show n.f0 = 1 ∨ n.f0 = 2 ∨ n.f0 = 3 from .inl g1), beq_iff_eq.mpr g1]
   exact Ev.succ (by simp only [Xu.j0, if_true]; exact Xdi _ _ _ _ _ _ _ _ ok1 ok2 (by omega) (by omega))
  ·by_cases g2 : n.f0 = 2
   ·simp only [if_neg g1, if_pos g2, if_pos (show n.f0 = 1 ∨ n.f0 = 2 ∨ n.f0 = 3 from .inr (.inl g2)), beq_iff_eq.mpr g2]
    exact Ev.succ (by simp only [Xu.j0, if_true]; exact Xdi _ _ _ _ _ _ _ _ ok1 ok2 (by omega) (by omega))
   ·by_cases g3 : n.f0 = 3
    ·simp only [if_neg g1, if_neg g2, if_pos (show n.f0 = 1 ∨ n.f0 = 2 ∨ n.f0 = 3 from .inr (.inr g3)), beq_iff_eq.mpr g3]
     exact Ev.succ (by simp only [Xu.j0, if_true]; exact Xdi _ _ _ _ _ _ _ _ ok1 ok2 (by omega) (by omega))
    ·simp only [if_neg g1, if_neg g2, if_neg (show ¬ (n.f0 = 1 ∨ n.f0 = 2 ∨ n.f0 = 3) by omega), beq_eq_false_iff_ne.mpr g3]
     refine Ev.succ ?_
     simp only [Xu.j0, Bool.false_eq_true, if_false]
     by_cases g4 : n.f0 = 4
     ·simp only [if_pos g4]; exact Xdi _ _ _ _ _ _ _ _ ok1 ok2 (by omega) (by omega)
     ·by_cases g5 : n.f0 = 5
      ·simp only [if_neg g4, if_pos g5]; exact Xdi _ _ _ _ _ _ _ _ ok1 ok2 (by omega) (by omega)
      ·simp only [if_neg g4, if_neg g5]; exact Ev.const _
theorem itm_val3 (n : S32) (ok : Ok3 n) : itm n = if (Sh.cnt n.f1).2 = true then (if gdK n.f0 (Sh.cnt n.f1).1 n.f2 n.f3 = true then (Sh.cnt n.f1).1 else -1) else -1 :=
 Ev.uniq (itm_said n ok.1).1 (items_val n ok)
theorem Xeg (a b : Int) : a ≤ mx a b ∧ b ≤ mx a b ∧ (mx a b = a ∨ mx a b = b) := by unfold mx; split <;> omega
theorem mx_eq {a b c : Int} (h1 : a ≤ c) (h2 : b ≤ c) (h3 : c = a ∨ c = b) : mx a b = c := by have := Xeg a b; omega
noncomputable def fin (all deep : Int) (st : List Int) (i : Int) (r : List S32) : Int × Int × Int :=
 match st with
 | [] => (i, all, deep)
 | x :: s => Xcv all deep (x :: s) i r
theorem walkS_fin {all deep : Int} {st : List Int} {i : Int} {n : S32} {r : List S32} (h : ¬ (itm n < 0 ∨ wrap64 (all + itm n) > 1048576 ∨ 16 ≤ st.length)) :
  Xcv all deep st i (n :: r) = fin (wrap64 (all + itm n)) (mx deep (wrap64 ((st.length : Int) + 1))) (clr (Xdl st n)) (i + 1) r := by
 simp only [Xcv, if_neg h]
 cases e : clr (Xdl st n) with
 | nil => simp only [fin, if_true]
 | cons x s => simp only [fin, if_neg (show ¬ (x :: s = []) from List.cons_ne_nil x s)]
theorem fin_cons {all deep : Int} {st : List Int} {i : Int} {r : List S32} (h : st ≠ []) : fin all deep st i r = Xcv all deep st i r := by
 cases st with
 | nil => exact absurd rfl h
 | cons x s => rfl
noncomputable def lpS (F : List S32 → Int × Int × Int) : Nat → List S32 → Int → Int → Int → Int × Int × Int
 | 0, _, u, m, d => (u, m, d + 1)
 | c + 1, r, u, m, d => if (F r).1 = 0 ∨ m + (F r).2.1 > 1048576 then (0, 0, 0) else lpS F c (r.drop (F r).1.toNat) (u + (F r).1) (m + (F r).2.1) (mx d (F r).2.2)
noncomputable def Xau : Nat → List S32 → Int × Int × Int
 | 0, _ => (0, 0, 0)
 | _ + 1, [] => (0, 0, 0)
 | d + 1, n :: r => if itm n < 0 then (0, 0, 0) else if n.f0 = 5 then lpS (fun l => Xau d l) (itm n).toNat r 1 (itm n) 0 else (1, itm n, 1)
def Ans (d : Nat) (l : List S32) (x : Int × Int × Int) : Prop := x = (0, 0, 0) ∨ (1 ≤ x.1 ∧ x.1 ≤ (l.length : Int) ∧ 0 ≤ x.2.1 ∧ x.2.1 ≤ 1048576 ∧ 1 ≤ x.2.2 ∧ x.2.2 ≤ (d : Int))
theorem lp_ans (F : List S32 → Int × Int × Int) (d : Nat) (hF : ∀ l, Ans d l (F l)) : ∀ (c : Nat) (r : List S32) (u m dep : Int), 1 ≤ u → 0 ≤ m → m ≤ 1048576 → 0 ≤ dep → dep ≤ (d : Int) →
  lpS F c r u m dep = (0, 0, 0) ∨ (u ≤ (lpS F c r u m dep).1 ∧ (lpS F c r u m dep).1 ≤ u + (r.length : Int) ∧ m ≤ (lpS F c r u m dep).2.1 ∧ (lpS F c r u m dep).2.1 ≤ 1048576 ∧ dep + 1 ≤ (lpS F c r u m dep).2.2 ∧ (lpS F c r u m dep).2.2 ≤ (d : Int) + 1) := by
 intro c
 induction c with
 | zero => intro r u m dep h1 h2 h3 h4 h5; right; simp only [lpS]; omega
 | succ c ih =>
  intro r u m dep h1 h2 h3 h4 h5
  by_cases g : (F r).1 = 0 ∨ m + (F r).2.1 > 1048576
  ·left; simp only [lpS, if_pos g]
  ·simp only [lpS, if_neg g]
   rcases hF r with e | e
   ·exact absurd (.inl (by rw [e])) g
   ·have hm := Xeg dep (F r).2.2
    have hd : (r.drop (F r).1.toNat).length = r.length - (F r).1.toNat := List.length_drop
    have := ih (r.drop (F r).1.toNat) (u + (F r).1) (m + (F r).2.1) (mx dep (F r).2.2) (by omega) (by omega) (by omega) (by omega) (by omega)
    rcases this with h | h
    ·exact .inl h
    ·right
     rw [hd] at h
     revert h
     generalize lpS F c (r.drop (F r).1.toNat) (u + (F r).1) (m + (F r).2.1) (mx dep (F r).2.2) = z
     intro h
     clear ih hF
     omega
theorem Xc3 : ∀ (d : Nat) (l : List S32), Ans d l (Xau d l) := by
 intro d
 induction d with
 | zero => intro l; left; simp only [Xau]
 | succ d ih =>
  intro l
  cases l with
  | nil => left; simp only [Xau]
  | cons n r =>
   by_cases g : itm n < 0
   ·left; simp only [Xau, if_pos g]
   ·have hb := itm_le n
    by_cases g5 : n.f0 = 5
    ·have := lp_ans (fun l => Xau d l) d ih (itm n).toNat r 1 (itm n) 0 (by omega) (by omega) (by omega) (by omega) (by omega)
     simp only [Xau, if_neg g, if_pos g5]
     rcases this with h | h
     ·exact .inl h
     ·right
      revert h
      generalize lpS (fun l => Xau d l) (itm n).toNat r 1 (itm n) 0 = z
      intro h
      clear ih
      simp only [List.length_cons]
      omega
    ·right
     simp only [Xau, if_neg g, if_neg g5, List.length_cons]
     omega
theorem walk_first : ∀ (d : Nat) (l : List S32) (st : List Int) (all D i : Int), st.length + d = 16 → 0 ≤ all → all ≤ 1048576 → (st.length : Int) ≤ D →
    Xcv all D st i l = if (Xau d l).1 = 0 ∨ all + (Xau d l).2.1 > 1048576 then (0, 0, 0) else fin (all + (Xau d l).2.1) (mx D ((st.length : Int) + (Xau d l).2.2)) (clr (decT st)) (i + (Xau d l).1) (l.drop (Xau d l).1.toNat) := by
  intro d
  induction d with
  | zero =>
    intro l st all D i hst h0 h1 hD
    simp only [Xau, true_or, if_true]
    cases l with
    | nil => simp only [Xcv]
    | cons n r => simp only [Xcv, if_pos (show itm n < 0 ∨ wrap64 (all + itm n) > 1048576 ∨ 16 ≤ st.length from .inr (.inr (by omega)))]
  | succ d ih =>
    intro l st all D i hst h0 h1 hD
    cases l with
    | nil => simp only [Xau, true_or, if_true, Xcv]
    | cons n r =>
      have hb := itm_le n
      by_cases g : itm n < 0
      · simp only [Xau, if_pos g, true_or, if_true, Xcv, if_pos (show itm n < 0 ∨ wrap64 (all + itm n) > 1048576 ∨ 16 ≤ st.length from .inl g)]
      · have hw : wrap64 (all + itm n) = all + itm n := w64 (by omega) (by omega)
        have hq : wrap64 ((st.length : Int) + 1) = (st.length : Int) + 1 := w64 (by omega) (by omega)
        by_cases g2 : all + itm n > 1048576
        · have hL : Xcv all D st i (n :: r) = (0, 0, 0) := by
            simp only [Xcv, if_pos (show itm n < 0 ∨ wrap64 (all + itm n) > 1048576 ∨ 16 ≤ st.length from .inr (.inl (by rw [hw]; exact g2)))]
          rw [hL]
          by_cases g5 : n.f0 = 5
          · have := lp_ans (fun l => Xau d l) d (Xc3 d) (itm n).toNat r 1 (itm n) 0 (by omega) (by omega) (by omega) (by omega) (by omega)
            simp only [Xau, if_neg g, if_pos g5]
            revert this
            generalize lpS (fun l => Xau d l) (itm n).toNat r 1 (itm n) 0 = z
            intro h
            rw [if_pos]
            rcases h with h | h
            · left; rw [h]
            · right; omega
          · simp only [Xau, if_neg g, if_neg g5, if_pos (show (1 : Int) = 0 ∨ all + itm n > 1048576 from .inr g2)]
        · have hnf : ¬ (itm n < 0 ∨ wrap64 (all + itm n) > 1048576 ∨ 16 ≤ st.length) := by
            rw [hw]; clear ih; omega
          rw [walkS_fin hnf, hw, hq]
          clear hnf
          by_cases g5 : n.f0 = 5
          · have hp : Xdl st n = itm n :: st := by unfold Xdl; rw [if_pos g5]
            rw [hp]
            simp only [Xau, if_neg g, if_pos g5]
            have loop : ∀ (c : Nat) (r' : List S32) (u it dep : Int), (c : Int) + 1 ≤ 1048576 → 1 ≤ u → 0 ≤ it → it ≤ 1048576 → all + it ≤ 1048576 → 0 ≤ dep → dep ≤ (d : Int) →
                Xcv (all + it) (mx D ((st.length : Int) + 1 + dep)) (((c + 1 : Nat) : Int) :: st) (i + u) r' =
                  if (lpS (fun l => Xau d l) (c + 1) r' u it dep).1 = 0 ∨ all + (lpS (fun l => Xau d l) (c + 1) r' u it dep).2.1 > 1048576 then (0, 0, 0)
                  else fin (all + (lpS (fun l => Xau d l) (c + 1) r' u it dep).2.1) (mx D ((st.length : Int) + (lpS (fun l => Xau d l) (c + 1) r' u it dep).2.2)) (clr (decT st)) (i + (lpS (fun l => Xau d l) (c + 1) r' u it dep).1) (r'.drop ((lpS (fun l => Xau d l) (c + 1) r' u it dep).1 - u).toNat) := by
              intro c
              induction c with
              | zero =>
                intro r' u it dep q0 q1 q2 q3 q4 q5 q6
                have m1 := Xeg D ((st.length : Int) + 1 + dep)
                rw [ih r' (((0 + 1 : Nat) : Int) :: st) (all + it) (mx D ((st.length : Int) + 1 + dep)) (i + u) (by simp only [List.length_cons]; omega) (by omega) (by omega) (by simp only [List.length_cons]; omega)]
                have han := Xc3 d r'
                have hun : lpS (fun l => Xau d l) (0 + 1) r' u it dep = if (Xau d r').1 = 0 ∨ it + (Xau d r').2.1 > 1048576 then (0, 0, 0) else (u + (Xau d r').1, it + (Xau d r').2.1, mx dep (Xau d r').2.2 + 1) := by simp only [lpS]
                rw [hun]
                clear hun
                revert han
                generalize Xau d r' = x
                intro han
                have hcl : clr (decT (((0 + 1 : Nat) : Int) :: st)) = clr (decT st) := by
                  have hd1 : dec1 ((0 + 1 : Nat) : Int) = 0 := by unfold dec1; rw [w64 (by omega) (by omega)]; omega
                  show clr (dec1 ((0 + 1 : Nat) : Int) :: st) = _
                  rw [hd1, Xdu, if_pos rfl]
                rw [hcl]
                rcases han with e | e
                · simp only [e, true_or, if_true]
                · have hx : ¬ x.1 = 0 := by omega
                  by_cases g3 : it + x.2.1 > 1048576
                  · rw [if_pos (show x.1 = 0 ∨ all + it + x.2.1 > 1048576 by omega)]
                    simp only [if_pos (show x.1 = 0 ∨ it + x.2.1 > 1048576 from .inr g3), true_or, if_true]
                  · simp only [if_neg (show ¬ (x.1 = 0 ∨ it + x.2.1 > 1048576) by omega)]
                    have e1 : all + it + x.2.1 = all + (it + x.2.1) := by omega
                    rw [e1]
                    by_cases g4 : all + (it + x.2.1) > 1048576
                    · rw [if_pos (.inr g4), if_pos (.inr g4)]
                    · rw [if_neg (by omega), if_neg (by omega)]
                      have e2 : mx (mx D ((st.length : Int) + 1 + dep)) (((((0 + 1 : Nat) : Int) :: st).length : Int) + x.2.2) = mx D ((st.length : Int) + (mx dep x.2.2 + 1)) := by
                        have a1 := Xeg dep x.2.2
                        have a2 := Xeg D ((st.length : Int) + (mx dep x.2.2 + 1))
                        simp only [List.length_cons]
                        exact mx_eq (by omega) (by omega) (by omega)
                      rw [e2, show i + u + x.1 = i + (u + x.1) by omega, show (u + x.1 - u).toNat = x.1.toNat by omega]
              | succ c ihc =>
                intro r' u it dep q0 q1 q2 q3 q4 q5 q6
                have m1 := Xeg D ((st.length : Int) + 1 + dep)
                rw [ih r' (((c + 1 + 1 : Nat) : Int) :: st) (all + it) (mx D ((st.length : Int) + 1 + dep)) (i + u) (by simp only [List.length_cons]; omega) (by omega) (by omega) (by simp only [List.length_cons]; omega)]
                have han := Xc3 d r'
                have hun : lpS (fun l => Xau d l) (c + 1 + 1) r' u it dep = if (Xau d r').1 = 0 ∨ it + (Xau d r').2.1 > 1048576 then (0, 0, 0) else lpS (fun l => Xau d l) (c + 1) (r'.drop (Xau d r').1.toNat) (u + (Xau d r').1) (it + (Xau d r').2.1) (mx dep (Xau d r').2.2) := by simp only [lpS]
                rw [hun]
                clear hun
                revert han
                generalize Xau d r' = x
                intro han
                have hcl : clr (decT (((c + 1 + 1 : Nat) : Int) :: st)) = ((c + 1 : Nat) : Int) :: st := by
                  have hd1 : dec1 ((c + 1 + 1 : Nat) : Int) = ((c + 1 : Nat) : Int) := by unfold dec1; rw [w64 (by omega) (by omega)]; omega
                  show clr (dec1 ((c + 1 + 1 : Nat) : Int) :: st) = _
                  rw [hd1, Xdu, if_neg (by omega)]
                rw [hcl]
                rcases han with e | e
                · simp only [e, true_or, if_true]
                · have hx : ¬ x.1 = 0 := by omega
                  by_cases g3 : it + x.2.1 > 1048576
                  · rw [if_pos (show x.1 = 0 ∨ all + it + x.2.1 > 1048576 by omega)]
                    simp only [if_pos (show x.1 = 0 ∨ it + x.2.1 > 1048576 from .inr g3), true_or, if_true]
                  · rw [if_neg (show ¬ (x.1 = 0 ∨ it + x.2.1 > 1048576) by omega)]
                    have e1 : all + it + x.2.1 = all + (it + x.2.1) := by omega
                    rw [e1]
                    have a1 := Xeg dep x.2.2
                    by_cases g4 : all + (it + x.2.1) > 1048576
                    · rw [if_pos (.inr g4)]
                      have := lp_ans (fun l => Xau d l) d (Xc3 d) (c + 1) (r'.drop x.1.toNat) (u + x.1) (it + x.2.1) (mx dep x.2.2) (by omega) (by omega) (by omega) (by omega) (by omega)
                      revert this
                      generalize lpS (fun l => Xau d l) (c + 1) (r'.drop x.1.toNat) (u + x.1) (it + x.2.1) (mx dep x.2.2) = z
                      intro h
                      rw [if_pos]
                      rcases h with h | h
                      · left; rw [h]
                      · right; omega
                    · rw [if_neg (by omega), fin_cons (List.cons_ne_nil _ _)]
                      have e2 : mx (mx D ((st.length : Int) + 1 + dep)) (((((c + 1 + 1 : Nat) : Int) :: st).length : Int) + x.2.2) = mx D ((st.length : Int) + 1 + mx dep x.2.2) := by
                        have a2 := Xeg D ((st.length : Int) + 1 + mx dep x.2.2)
                        simp only [List.length_cons]
                        exact mx_eq (by omega) (by omega) (by omega)
                      rw [e2, show i + u + x.1 = i + (u + x.1) by omega, ihc (r'.drop x.1.toNat) (u + x.1) (it + x.2.1) (mx dep x.2.2) (by omega) (by omega) (by omega) (by omega) (by omega) (by omega) (by omega)]
                      have han2 := lp_ans (fun l => Xau d l) d (Xc3 d) (c + 1) (r'.drop x.1.toNat) (u + x.1) (it + x.2.1) (mx dep x.2.2) (by omega) (by omega) (by omega) (by omega) (by omega)
                      revert han2
                      generalize lpS (fun l => Xau d l) (c + 1) (r'.drop x.1.toNat) (u + x.1) (it + x.2.1) (mx dep x.2.2) = z
                      intro han2
                      rcases han2 with h | h
                      · simp only [h, true_or, if_true]
                      · rw [List.drop_drop, show x.1.toNat + (z.1 - (u + x.1)).toNat = (z.1 - u).toNat by omega]
            by_cases hz : itm n = 0
            · rw [hz, Xdu, if_pos rfl]
              simp only [Int.toNat_zero, lpS]
              rw [if_neg (by omega), Int.zero_add]
              rfl
            · obtain ⟨c, hc⟩ : ∃ c : Nat, itm n = ((c + 1 : Nat) : Int) := ⟨(itm n).toNat - 1, by omega⟩
              rw [Xdu, if_neg hz, fin_cons (List.cons_ne_nil _ _)]
              have := loop c r 1 (itm n) 0 (by omega) (by omega) (by omega) (by omega) (by omega) (by omega) (by omega)
              rw [← hc, Int.add_zero] at this
              rw [this, show (itm n).toNat = c + 1 by omega]
              have han2 := lp_ans (fun l => Xau d l) d (Xc3 d) (c + 1) r 1 (itm n) 0 (by omega) (by omega) (by omega) (by omega) (by omega)
              revert han2
              generalize lpS (fun l => Xau d l) (c + 1) r 1 (itm n) 0 = z
              intro han2
              rcases han2 with h | h
              · simp only [h, true_or, if_true]
              · rw [show z.1.toNat = (z.1 - 1).toNat + 1 by omega, List.drop_succ_cons]
          · have hp : Xdl st n = decT st := by unfold Xdl; rw [if_neg g5]
            rw [hp]
            simp only [Xau, if_neg g, if_neg g5]
            rw [if_neg (by omega)]
            rfl
theorem walk_is (l : List S32) : Xcv 0 0 [] 0 l = Xau 16 l := by
 rw [walk_first 16 l [] 0 0 0 (by simp) (by omega) (by omega) (by simp)]
 have han := Xc3 16 l
 revert han
 generalize Xau 16 l = x
 intro han
 rcases han with e | e
 ·simp only [e, true_or, if_true]
 ·rw [if_neg (by omega)]
  show fin (0 + x.2.1) (mx 0 ((([] : List Int).length : Int) + x.2.2)) (clr []) (0 + x.1) _ = x
  rw [clr_nil]
  have : mx 0 ((([] : List Int).length : Int) + x.2.2) = x.2.2 := by
   simp only [List.length_nil]
   exact mx_eq (by omega) (by omega) (by omega)
  rw [this, Int.zero_add, Int.zero_add]
  rfl
def OkE (y : S40) : Prop := In64 y.f0 ∧ In64 y.f1
theorem OkE.d {y : S40} (h : OkE y) : OkD y := h.2
theorem ten_le {x : Int} {e : Nat} (h0 : x ≠ 0) (h : In64 (x * 10 ^ e)) : e ≤ 18 := by
 obtain ⟨h1, h2⟩ := h
 refine Nat.not_lt.1 fun hlt => ?_
 have h3 : (10 : Nat) ^ 19 ≤ 10 ^ e := Nat.pow_le_pow_right (by decide) hlt
 have h4 : (x * 10 ^ e).natAbs = x.natAbs * 10 ^ e := by rw [Int.natAbs_mul, Int.natAbs_pow]; rfl
 have h5 : 10 ^ e ≤ x.natAbs * 10 ^ e := Nat.le_mul_of_pos_left _ (by omega)
 have h6 : (10 : Nat) ^ 19 = 10000000000000000000 := by decide
 generalize x * 10 ^ e = z at h1 h2 h4
 generalize (10 : Nat) ^ e = q at h3 h5 h4
 omega
theorem In64.mul_down {m : Int} {i j : Nat} (hij : i ≤ j) (h : In64 (m * 10 ^ j)) : In64 (m * 10 ^ i) := by
 obtain ⟨h1, h2⟩ := h
 have h3 : (10 : Int) ^ i ≤ 10 ^ j := by
  have := Nat.pow_le_pow_right (show 0 < 10 by decide) hij
  exact_mod_cast this
 have h4 : (0 : Int) < 10 ^ i := by
  have := Nat.pow_pos (show 0 < 10 by decide) (n := i)
  exact_mod_cast this
 unfold In64
 by_cases c : 0 ≤ m
 ·have h5 := Int.mul_le_mul_of_nonneg_left h3 c
  have h6 := Int.mul_nonneg c (Int.le_of_lt h4)
  omega
 ·have h5 := Int.mul_le_mul_of_nonneg_left h3 (show 0 ≤ -m by omega)
  have h6 := Int.mul_nonneg (show 0 ≤ -m by omega) (Int.le_of_lt h4)
  rw [Int.neg_mul, Int.neg_mul] at h5
  rw [Int.neg_mul] at h6
  omega
theorem norm_of : ∀ (d : Nat) (x : Int) (e : Nat), x ≠ 0 → x.natAbs ≤ d → In64 (x * 10 ^ e) → ∃ (m : Int) (j : Nat), Ev (fun k => Xai.l0 k x (e : Int)) (m, (j : Int), true) ∧ m ≠ 0 ∧ Int.tmod m 10 ≠ 0 ∧ m * 10 ^ j = x * 10 ^ e ∧ j ≤ 18 := by
 intro d
 induction d with
 | zero => intro x e h0 h1; exact absurd (show x = 0 by omega) h0
 | succ d ih =>
  intro x e h0 h1 h2
  have he := ten_le h0 h2
  by_cases h : Int.tmod x 10 = 0
  ·have hx : x = Int.tdiv x 10 * 10 := by have := Int.mul_tdiv_add_tmod x 10; omega
   have hx64 : In64 (x * 10 ^ 0) := In64.mul_down (Nat.zero_le e) h2
   rw [Int.pow_zero, Int.mul_one] at hx64
   obtain ⟨b1, b2⟩ := hx64
   have hp : Int.tdiv x 10 * 10 ^ (e + 1) = x * 10 ^ e := by
    rw [Int.pow_succ, Int.mul_comm (10 ^ e) 10, ← Int.mul_assoc, ← hx]
   obtain ⟨m, j, q1, q2, q3, q4, q5⟩ := ih (Int.tdiv x 10) (e + 1) (by omega) (by omega) (by rw [hp]; exact h2)
   refine ⟨m, j, Ev.succ ?_, q2, q3, q4.trans hp, q5⟩
   simp only [Xai.l0, if_pos h, if_pos (show (e : Int) ≤ 32767 by omega)]
   rw [w64 (n := Int.tdiv x 10) (by omega) (by omega), w64 (n := (e : Int) + 1) (by omega) (by omega)]
   exact q1
  ·refine ⟨x, e, Ev.succ ?_, h0, h, rfl, he⟩
   simp only [Xai.l0, if_neg h, if_neg (show ¬ (e : Int) < -32768 by omega), if_neg (show ¬ (e : Int) > 32767 by omega)]
   exact Ev.const _
def OfI (v : Int) (y : S40) : Prop := ∃ j : Nat, y.f1 = (j : Int) ∧ j ≤ 18 ∧ y.f0 * 10 ^ j = v ∧ (v = 0 → y.f0 = 0 ∧ j = 0) ∧ (v ≠ 0 → y.f0 ≠ 0 ∧ Int.tmod y.f0 10 ≠ 0)
theorem of_some (v : Int) (h : In64 v) : ∃ y : S40, Ev (fun k => Xa4.f k v) (y.f0, y.f1) ∧ OfI v y := by
 by_cases h0 : v = 0
 ·refine ⟨⟨0, 0⟩, ?_, 0, rfl, by omega, by rw [h0]; rfl, fun _ => ⟨rfl, rfl⟩, fun g => absurd h0 g⟩
  simp only [Xa4.f, Xai.f, if_pos h0]
  exact Ev.bind (Ev.const _) (Ev.const _)
 ·obtain ⟨m, j, q1, q2, q3, q4, q5⟩ := norm_of v.natAbs v 0 h0 (Nat.le_refl _) (by rw [Int.pow_zero, Int.mul_one]; exact h)
  rw [Int.pow_zero, Int.mul_one] at q4
  refine ⟨⟨m, j⟩, ?_, j, rfl, q5, q4, fun g => absurd g h0, fun _ => ⟨q2, q3⟩⟩
  simp only [Xa4.f, Xai.f, if_neg h0]
  exact Ev.bind q1 (Ev.const _)
noncomputable def ofD (v : Int) : S40 := open Classical in if h : ∃ y : S40, Ev (fun k => Xa4.f k v) (y.f0, y.f1) ∧ OfI v y then h.choose else ⟨0, 0⟩
theorem Xd4 (v : Int) (h : In64 v) : Ev (fun k => Xa4.f k v) ((ofD v).f0, (ofD v).f1) ∧ OfI v (ofD v) := by
 have e := of_some v h
 unfold ofD
 rw [dif_pos e]
 exact e.choose_spec
theorem OfI.ok {v : Int} {y : S40} (h : OfI v y) (hv : In64 v) : OkE y := by
 obtain ⟨j, e1, e2, e3, e4, e5⟩ := h
 refine ⟨?_, by unfold In64; omega⟩
 have := In64.mul_down (Nat.zero_le j) (m := y.f0) (by rw [e3]; exact hv)
 rw [Int.pow_zero, Int.mul_one] at this
 exact this
theorem OfI.right {v : Int} {y : S40} (h : OfI v y) : Ev (fun k => Xae.f k y.f0 y.f1) true := by
 obtain ⟨j, e1, e2, e3, e4, e5⟩ := h
 simp only [Xae.f, Xai.f]
 by_cases h0 : v = 0
 ·obtain ⟨g1, g2⟩ := e4 h0
  simp only [if_pos g1]
  refine Ev.bind (Ev.const _) ?_
  rw [e1, g1, g2]
  exact Ev.const _
 ·obtain ⟨g1, g2⟩ := e5 h0
  simp only [if_neg g1]
  refine Ev.bind (u := (y.f0, y.f1, true)) (Ev.succ ?_) ?_
  ·simp only [Xai.l0, if_neg g2, if_neg (show ¬ y.f1 < -32768 by omega), if_neg (show ¬ y.f1 > 32767 by omega)]
   exact Ev.const _
  ·simp only [if_true, BEq.rfl, Bool.and_self]
   exact Ev.const _
theorem whole_up {m : Int} {j : Nat} (hj : j ≤ 18) (h : In64 (m * 10 ^ j)) : ∀ d i, i ≤ j → j - i = d → Ev (fun k => Xr.l0 k (m * 10 ^ i) (j : Int) (i : Int)) (m * 10 ^ j, true) := by
 intro d
 induction d with
 | zero =>
  intro i h1 h2
  obtain rfl : i = j := by omega
  refine Ev.succ ?_
  simp only [Xr.l0, if_neg (Int.lt_irrefl _)]
  exact Ev.const _
 | succ d ih =>
  intro i h1 h2
  have e : m * 10 ^ i * 10 = m * 10 ^ (i + 1) := by rw [Int.pow_succ, Int.mul_assoc]
  have hb := In64.mul_down (show i + 1 ≤ j by omega) h
  have hc := In64.mul_down (show i ≤ j by omega) h
  obtain ⟨b1, b2⟩ := hb
  obtain ⟨c1, c2⟩ := hc
  have hw : wrap64 (m * 10 ^ (i + 1)) = m * 10 ^ (i + 1) := w64 b1 b2
  have ht : Int.tdiv (m * 10 ^ (i + 1)) 10 = m * 10 ^ i := by rw [← e]; exact Int.mul_tdiv_cancel _ (by decide)
  have hi : wrap64 ((i : Int) + 1) = ((i + 1 : Nat) : Int) := by rw [w64 (by omega) (by omega)]; omega
  refine Ev.succ ?_
  simp only [Xr.l0, if_pos (show (i : Int) < (j : Int) by omega), e, hw, ht, w64 c1 c2, if_true, hi]
  exact ih (i + 1) (by omega) (by omega)
theorem OfI.whole {v : Int} {y : S40} (h : OfI v y) (hv : In64 v) : Ev (fun k => Xr.f k y.f0 y.f1) (v, true) := by
 have hr := h.right
 obtain ⟨j, e1, e2, e3, e4, e5⟩ := h
 simp only [Xr.f]
 refine Ev.bind hr ?_
 simp only [if_true, if_neg (show ¬ y.f1 < 0 by omega), decide_eq_false (show ¬ y.f1 > 18 by omega)]
 refine Ev.succ ?_
 simp only [Xr.j0, Bool.false_eq_true, if_false]
 have := whole_up e2 (m := y.f0) (by rw [e3]; exact hv) j 0 (by omega) (by omega)
 rw [Int.pow_zero, Int.mul_one, e3] at this
 rw [e1]
 exact this
theorem In64.wrap (x : Int) : In64 (wrap64 x) := by unfold In64 wrap64; omega
theorem whole_some : ∀ (d : Nat) (n : Int) (j i : Nat), j ≤ 18 → i ≤ j → j - i = d → In64 n → ∃ v, Ev (fun k => Xr.l0 k n (j : Int) (i : Int)) v ∧ In64 v.1 := by
 intro d
 induction d with
 | zero =>
  intro n j i h0 h1 h2 hn
  obtain rfl : i = j := by omega
  refine ⟨(n, true), Ev.succ ?_, hn⟩
  simp only [Xr.l0, if_neg (Int.lt_irrefl _)]
  exact Ev.const _
 | succ d ih =>
  intro n j i h0 h1 h2 hn
  have hi : wrap64 ((i : Int) + 1) = ((i + 1 : Nat) : Int) := by rw [w64 (by omega) (by omega)]; omega
  by_cases g : wrap64 (Int.tdiv (wrap64 (n * 10)) 10) = n
  ·obtain ⟨v, q1, q2⟩ := ih (wrap64 (n * 10)) j (i + 1) h0 (by omega) (by omega) (In64.wrap _)
   refine ⟨v, Ev.succ ?_, q2⟩
   simp only [Xr.l0, if_pos (show (i : Int) < (j : Int) by omega), if_pos g, hi]
   exact q1
  ·refine ⟨(0, false), Ev.succ ?_, by unfold In64; omega⟩
   simp only [Xr.l0, if_pos (show (i : Int) < (j : Int) by omega), if_neg g]
   exact Ev.const _
theorem wh_total (y : S40) (h : OkE y) : ∃ v, Ev (fun k => Xr.f k y.f0 y.f1) v ∧ In64 v.1 := by
 have hr := dr_ev y h.d
 have hno : Ev (fun k => Xr.j0 k true y.f0 y.f1) (0, false) := Ev.succ (by simp only [Xr.j0, if_true]; exact Ev.const _)
 have h0 : In64 0 := by unfold In64; omega
 cases g : dr y with
 | false =>
  rw [g] at hr
  refine ⟨(0, false), ?_, h0⟩
  simp only [Xr.f]
  refine Ev.bind hr ?_
  simp only [Bool.false_eq_true, if_false]; exact hno
 | true =>
  rw [g] at hr
  by_cases c1 : y.f1 < 0
  ·refine ⟨(0, false), ?_, h0⟩
   simp only [Xr.f]
   refine Ev.bind hr ?_
   simp only [if_true, if_pos c1]; exact hno
  ·by_cases c2 : y.f1 > 18
   ·refine ⟨(0, false), ?_, h0⟩
    simp only [Xr.f]
    refine Ev.bind hr ?_
    simp only [if_true, if_neg c1, decide_eq_true c2]; exact hno
   ·obtain ⟨j, hj⟩ : ∃ j : Nat, y.f1 = (j : Int) := ⟨y.f1.toNat, by omega⟩
    obtain ⟨v, q1, q2⟩ := whole_some j y.f0 j 0 (by omega) (by omega) (by omega) h.1
    refine ⟨v, ?_, q2⟩
    simp only [Xr.f]
    refine Ev.bind hr ?_
    simp only [if_true, if_neg c1, decide_eq_false c2]
    refine Ev.succ ?_
    simp only [Xr.j0, Bool.false_eq_true, if_false]
    rw [hj]
    exact q1
noncomputable def wh (y : S40) : Int × Bool := open Classical in if h : ∃ v, Ev (fun k => Xr.f k y.f0 y.f1) v ∧ In64 v.1 then h.choose else (0, false)
theorem wh_ev (y : S40) (h : OkE y) : Ev (fun k => Xr.f k y.f0 y.f1) (wh y) ∧ In64 (wh y).1 := by
 have e := wh_total y h
 unfold wh
 rw [dif_pos e]
 exact e.choose_spec
theorem wh_of {v : Int} {y : S40} (h : OfI v y) (hv : In64 v) : wh y = (v, true) := Ev.uniq (wh_ev y (h.ok hv)).1 (h.whole hv)
theorem dr_of {v : Int} {y : S40} (h : OfI v y) (hv : In64 v) : dr y = true := Ev.uniq (dr_ev y (h.ok hv).d) h.right
theorem whole_loop (l : List S40) (ok : ∀ y ∈ l, OkE y) (hl : l.length ≤ 8000000000000) : ∀ d i (acc : List Int), i ≤ l.length → l.length - i = d → acc.length = i →
  Ev (fun k => Xat.l0 k acc l (l.length : Int) (i : Int)) (if (l.drop i).all (fun y => (wh y).2) = true then (acc ++ (l.drop i).map (fun y => (wh y).1), true) else ([], false)) := by
 intro d
 induction d with
 | zero =>
  intro i acc h1 h2 h3
  rw [List.drop_eq_nil_of_le (by omega)]
  refine Ev.succ ?_
  simp only [Xat.l0, if_neg (show ¬ ((i : Int) < (l.length : Int)) by omega), List.all_nil, if_true, List.map_nil, List.append_nil]
  exact Ev.const _
 | succ d ih =>
  intro i acc h1 h2 h3
  have hi : i < l.length := by omega
  have hw := wh_ev l[i] (ok _ (List.getElem_mem _))
  have hv := ih (i + 1) (acc ++ [(wh l[i]).1]) (by omega) (by omega) (by rw [List.length_append, List.length_singleton, h3])
  rw [List.drop_eq_getElem_cons hi, List.all_cons, List.map_cons]
  rw [List.append_assoc, List.singleton_append] at hv
  refine Ev.succ ?_
  simp only [Xat.l0, if_pos (show ((i : Int) < (l.length : Int)) by omega), if_pos (show (0 : Int) ≤ (i : Int) by omega), Xek l i hi, ix hi (show l.length ≤ 9223372036854775807 by omega)]
  refine Ev.bind hw.1 ?_
  cases g : (wh l[i]).2 with
  | false => simp only [Bool.false_eq_true, if_false, Bool.false_and]; exact Ev.const _
  | true =>
   simp only [if_true, Bool.true_and, if_pos (show acc.length < 17592186044416 by omega)]
   exact hv
theorem whole_ev (l : List S40) (ok : ∀ y ∈ l, OkE y) (hl : l.length ≤ 8000000000000) : Ev (fun k => Xat.f k l) (if l.all (fun y => (wh y).2) = true then (l.map (fun y => (wh y).1), true) else ([], false)) := by
 have := whole_loop l ok hl l.length 0 [] (by omega) (by omega) rfl
 rw [List.drop_zero, List.nil_append] at this
 simp only [Xat.f]
 exact this
theorem wrong_loop (l : List S40) (ok : ∀ y ∈ l, OkE y) (hl : l.length ≤ 8000000000000) : ∀ d i, i ≤ l.length → l.length - i = d → ∃ r : Int, Ev (fun k => Xba.l0 k l (l.length : Int) (i : Int)) r ∧ decide (r ≥ 0) = !(l.drop i).all dr := by
 intro d
 induction d with
 | zero =>
  intro i h1 h2
  rw [List.drop_eq_nil_of_le (by omega)]
  refine ⟨-1, Ev.succ ?_, rfl⟩
  simp only [Xba.l0, if_neg (show ¬ ((i : Int) < (l.length : Int)) by omega)]
  exact Ev.const _
 | succ d ih =>
  intro i h1 h2
  have hi : i < l.length := by omega
  have hd := dr_ev l[i] (ok _ (List.getElem_mem _)).d
  obtain ⟨r, q1, q2⟩ := ih (i + 1) (by omega) (by omega)
  rw [List.drop_eq_getElem_cons hi, List.all_cons]
  cases g : dr l[i] with
  | false =>
   rw [g] at hd
   refine ⟨(i : Int), Ev.succ ?_, by rw [Bool.false_and]; exact decide_eq_true (by omega)⟩
   simp only [Xba.l0, if_pos (show ((i : Int) < (l.length : Int)) by omega), if_pos (show (0 : Int) ≤ (i : Int) by omega), Xek l i hi, Xbk.f]
   exact Ev.bind (u := true) (Ev.bind hd (Ev.const _)) (Ev.const _)
  | true =>
   rw [g] at hd
   refine ⟨r, Ev.succ ?_, by rw [Bool.true_and]; exact q2⟩
   simp only [Xba.l0, if_pos (show ((i : Int) < (l.length : Int)) by omega), if_pos (show (0 : Int) ≤ (i : Int) by omega), Xek l i hi, Xbk.f, ix hi (show l.length ≤ 9223372036854775807 by omega)]
   exact Ev.bind (u := false) (Ev.bind hd (Ev.const _)) q1
theorem wrong_ev (l : List S40) (ok : ∀ y ∈ l, OkE y) (hl : l.length ≤ 8000000000000) : Ev (fun k => Xcj.f k l) (!l.all dr) := by
 obtain ⟨r, q1, q2⟩ := wrong_loop l ok hl l.length 0 (by omega) (by omega)
 rw [List.drop_zero] at q2
 simp only [Xcj.f, Xba.f]
 refine Ev.bind q1 ?_
 rw [q2]
 exact Ev.const _
def bit (v : Int) : Bool := v == 0 || v == 1
theorem great_loop (l : List Int) (ok : ∀ v ∈ l, In64 v) (hl : l.length ≤ 8000000000000) : ∀ d i, i ≤ l.length → l.length - i = d → ∃ r : Int, Ev (fun k => Xn.l0 k l (l.length : Int) (i : Int)) r ∧ decide (r ≥ 0) = !(l.drop i).all bit := by
 intro d
 induction d with
 | zero =>
  intro i h1 h2
  rw [List.drop_eq_nil_of_le (by omega)]
  refine ⟨-1, Ev.succ ?_, rfl⟩
  simp only [Xn.l0, if_neg (show ¬ ((i : Int) < (l.length : Int)) by omega)]
  exact Ev.const _
 | succ d ih =>
  intro i h1 h2
  have hi : i < l.length := by omega
  have hb : Xci.f l[i] = some (!bit l[i]) := by
   unfold Xci.f bit
   rw [← andNot1 l[i] (ok _ (List.getElem_mem _))]; rfl
  obtain ⟨r, q1, q2⟩ := ih (i + 1) (by omega) (by omega)
  rw [List.drop_eq_getElem_cons hi, List.all_cons]
  cases g : bit l[i] with
  | false =>
   rw [g] at hb
   refine ⟨(i : Int), Ev.succ ?_, by rw [Bool.false_and]; exact decide_eq_true (by omega)⟩
   simp only [Xn.l0, if_pos (show ((i : Int) < (l.length : Int)) by omega), if_pos (show (0 : Int) ≤ (i : Int) by omega), Xdq l i hi, hb]
   exact Ev.bind (u := true) (Ev.const _) (Ev.const _)
  | true =>
   rw [g] at hb
   refine ⟨r, Ev.succ ?_, by rw [Bool.true_and]; exact q2⟩
   simp only [Xn.l0, if_pos (show ((i : Int) < (l.length : Int)) by omega), if_pos (show (0 : Int) ≤ (i : Int) by omega), Xdq l i hi, hb, ix hi (show l.length ≤ 9223372036854775807 by omega)]
   exact Ev.bind (u := false) (Ev.const _) q1
theorem great_ev (l : List Int) (ok : ∀ v ∈ l, In64 v) (hl : l.length ≤ 8000000000000) : Ev (fun k => Xac.f k l) (!l.all bit) := by
 obtain ⟨r, q1, q2⟩ := great_loop l ok hl l.length 0 (by omega) (by omega)
 rw [List.drop_zero] at q2
 simp only [Xac.f, Xn.f]
 refine Ev.bind q1 ?_
 rw [q2]
 exact Ev.const _
noncomputable def nbS (s : List Int) (l : List S40) : Int × List Int × List Int × List S40 × Bool :=
 if (Sh.cnt s).2 = true ∧ (Sh.cnt s).1 = (l.length : Int) ∧ l.all dr = true then
  (if l.all (fun y => (wh y).2) = true then ((if 0 < l.length ∧ (l.map (fun y => (wh y).1)).all bit = true then 1 else 2), s, l.map (fun y => (wh y).1), [], true) else (4, s, [], l, true))
 else (0, [], [], [], false)
theorem numbers_ev (s : List Int) (l : List S40) (ok : ∀ y ∈ l, OkE y) (hs : s.length ≤ 8000000000000) (hl : l.length ≤ 8000000000000) : Ev (fun k => Xz.f k s l) (nbS s l) := by
 have hc := cnt_ev s
 have hno : Ev (fun k => Xz.j0 k s l true) (0, [], [], [], false) := Ev.succ (by simp only [Xz.j0, if_true]; exact Ev.const _)
 unfold nbS
 revert hc
 generalize Sh.cnt s = c
 intro hc
 simp only [Xz.f]
 refine Ev.bind hc ?_
 by_cases g1 : c.2 = true
 ·by_cases g2 : c.1 = (l.length : Int)
  ·simp only [if_pos g1, if_pos g2]
   refine Ev.bind (wrong_ev l ok hl) ?_
   cases g3 : l.all dr with
   | false =>
    rw [if_neg (by simp)]
    exact hno
   | true =>
    rw [if_pos ⟨g1, g2, rfl⟩]
    refine Ev.succ ?_
    simp only [Xz.j0, Bool.not_true, Bool.false_eq_true, if_false, Xam.f, Option.bind_some, List.length_nil, Nat.zero_add, List.nil_append, if_pos (show s.length < 17592186044416 by omega)]
    refine Ev.bind (whole_ev l ok hl) ?_
    cases g4 : l.all (fun y => (wh y).2) with
    | false =>
     simp only [Bool.false_eq_true, if_false, Xcs.f, Option.bind_some, List.length_nil, Nat.zero_add, List.nil_append, if_pos (show l.length < 8796093022208 by omega)]
     exact Ev.const _
    | true =>
     simp only [if_true]
     by_cases g5 : (l.length : Int) > 0
     ·simp only [if_pos g5]
      have hb := great_ev (l.map (fun y => (wh y).1)) (fun v hv => by obtain ⟨y, hy, rfl⟩ := List.mem_map.1 hv; exact (wh_ev y (ok y hy)).2) (by rw [List.length_map]; exact hl)
      by_cases g6 : (l.map (fun y => (wh y).1)).all bit = true
      ·rw [g6] at hb
       refine Ev.bind hb ?_
       rw [if_pos (show 0 < l.length ∧ (l.map (fun y => (wh y).1)).all bit = true from ⟨by omega, g6⟩)]
       simp only [Bool.not_true, Bool.false_eq_true, if_false]; exact Ev.const _
      ·rw [Bool.eq_false_iff.mpr g6] at hb
       refine Ev.bind hb ?_
       rw [if_neg (show ¬ (0 < l.length ∧ (l.map (fun y => (wh y).1)).all bit = true) from fun h => g6 h.2)]
       simp only [Bool.not_false, if_true]; exact Ev.const _
     ·simp only [if_neg g5]
      rw [if_neg (fun h => g5 (by omega))]
      exact Ev.const _
  ·rw [if_neg (fun h => g2 h.2.1)]
   simp only [if_pos g1, if_neg g2]; exact hno
 ·rw [if_neg (fun h => g1 h.1)]
  simp only [if_neg g1]; exact hno
theorem nums_loop (l : List Int) (ok : ∀ v ∈ l, In64 v) (hl : l.length ≤ 8000000000000) : ∀ d i (acc : List S40), i ≤ l.length → l.length - i = d → acc.length = i →
  Ev (fun k => Xak.l0 k acc l (l.length : Int) (i : Int)) (acc ++ (l.drop i).map ofD) := by
 intro d
 induction d with
 | zero =>
  intro i acc h1 h2 h3
  rw [List.drop_eq_nil_of_le (by omega)]
  refine Ev.succ ?_
  simp only [Xak.l0, if_neg (show ¬ ((i : Int) < (l.length : Int)) by omega), List.map_nil, List.append_nil]
  exact Ev.const _
 | succ d ih =>
  intro i acc h1 h2 h3
  have hi : i < l.length := by omega
  have hw := Xd4 l[i] (ok _ (List.getElem_mem _))
  have hv := ih (i + 1) (acc ++ [ofD l[i]]) (by omega) (by omega) (by rw [List.length_append, List.length_singleton, h3])
  rw [List.drop_eq_getElem_cons hi, List.map_cons]
  rw [List.append_assoc, List.singleton_append] at hv
  refine Ev.succ ?_
  simp only [Xak.l0, if_pos (show ((i : Int) < (l.length : Int)) by omega), if_pos (show (0 : Int) ≤ (i : Int) by omega), Xdq l i hi, ix hi (show l.length ≤ 9223372036854775807 by omega)]
  refine Ev.bind hw.1 ?_
  simp only [if_pos (show acc.length < 8796093022208 by omega)]
  exact hv
noncomputable def Xc1 (n : S32) : List S40 := if n.f0 = 4 then n.f3 else n.f2.map ofD
theorem nums_ev (n : S32) (ok : ∀ v ∈ n.f2, In64 v) (hl : n.f2.length ≤ 8000000000000) : Ev (fun k => Xak.f k n.f0 n.f1 n.f2 n.f3) (Xc1 n) := by
 unfold Xc1
 by_cases g : n.f0 = 4
 ·simp only [Xak.f, if_pos g]; exact Ev.const _
 ·have := nums_loop n.f2 ok hl n.f2.length 0 [] (by omega) (by omega) rfl
  rw [List.drop_zero, List.nil_append] at this
  simp only [Xak.f, if_neg g]
  exact this
theorem form_one (n : S32) (h3 : n.f0 ≠ 3) (h5 : n.f0 ≠ 5) (o2 : ∀ v ∈ n.f2, In64 v) (o3 : ∀ y ∈ n.f3, OkE y) (l1 : n.f1.length ≤ 8000000000000) (l2 : n.f2.length ≤ 8000000000000) (l3 : n.f3.length ≤ 8000000000000) :
  Ev (fun k => tight_form.f k [n]) [⟨(nbS n.f1 (Xc1 n)).1, (nbS n.f1 (Xc1 n)).2.1, (nbS n.f1 (Xc1 n)).2.2.1, (nbS n.f1 (Xc1 n)).2.2.2.1⟩] := by
 have hok : ∀ y ∈ Xc1 n, OkE y := by
  unfold Xc1
  by_cases g : n.f0 = 4
  ·rw [if_pos g]; exact o3
  ·rw [if_neg g]
   intro y hy
   obtain ⟨v, hv, rfl⟩ := List.mem_map.1 hy
   exact (Xd4 v (o2 v hv)).2.ok (o2 v hv)
 have hlen : (Xc1 n).length ≤ 8000000000000 := by
  unfold Xc1
  by_cases g : n.f0 = 4
  ·rw [if_pos g]; exact l3
  ·rw [if_neg g, List.length_map]; exact l2
 refine Ev.succ ?_
 simp only [tight_form.f, List.length_singleton, if_pos (show (0 : Int) < ((1 : Nat) : Int) by decide), show Xa [n] 0 = n from rfl, if_neg h3, if_neg h5]
 refine Ev.bind (nums_ev n o2 (by omega)) ?_
 exact Ev.bind (numbers_ev n.f1 (Xc1 n) hok (by omega) (by omega)) (Ev.const _)
def RA : Nat → List S32 → Prop
 | 0, _ => False
 | d + 1, a => ∃ n, 0 ≤ itm n ∧ ((n.f0 ≠ 5 ∧ a = [n]) ∨ (n.f0 = 5 ∧ ∃ ks : List (List S32), itm n = (ks.length : Int) ∧ (∀ k ∈ ks, RA d k) ∧ a = n :: ks.flatten))
theorem RA.mono : ∀ {d : Nat} {a : List S32}, RA d a → ∀ {e : Nat}, d ≤ e → RA e a := by
 intro d
 induction d with
 | zero => intro a h; exact absurd h id
 | succ d ih =>
  intro a h e he
  obtain ⟨e, rfl⟩ : ∃ e', e = e' + 1 := ⟨e - 1, by omega⟩
  obtain ⟨n, h0, h1⟩ := h
  refine ⟨n, h0, h1.imp id fun h => ⟨h.1, ?_⟩⟩
  obtain ⟨ks, k1, k2, k3⟩ := h.2
  exact ⟨ks, k1, fun k hk => ih (k2 k hk) (by omega), k3⟩
theorem RA.node : ∀ {d : Nat} {a : List S32}, RA d a → ∀ n ∈ a, 0 ≤ itm n := by
 intro d
 induction d with
 | zero => intro a h; exact absurd h id
 | succ d ih =>
  intro a h m hm
  obtain ⟨n, h0, ⟨h1, rfl⟩ | ⟨h1, ks, k1, k2, rfl⟩⟩ := h
  ·rw [List.mem_singleton.1 hm]; exact h0
  ·rcases List.mem_cons.1 hm with rfl | hm
   ·exact h0
   ·obtain ⟨k, q1, q2⟩ := List.mem_flatten.1 hm
    exact ih (k2 k q1) m q2
theorem RA.ne {d : Nat} {a : List S32} (h : RA d a) : 1 ≤ d ∧ 1 ≤ a.length := by
 cases d with
 | zero => exact absurd h id
 | succ d =>
  obtain ⟨n, h0, ⟨h1, rfl⟩ | ⟨h1, ks, k1, k2, rfl⟩⟩ := h
  ·simp
  ·simp
noncomputable def sm (a : List S32) : Int := (a.map itm).sum
theorem sm_nil : sm [] = 0 := rfl
theorem Xcu (n : S32) (a : List S32) : sm (n :: a) = itm n + sm a := by unfold sm; rw [List.map_cons, List.sum_cons]
theorem Xej (a b : List S32) : sm (a ++ b) = sm a + sm b := by unfold sm; rw [List.map_append, List.sum_append]
theorem Xei : ∀ {a : List S32}, (∀ n ∈ a, 0 ≤ itm n) → 0 ≤ sm a := by
 intro a
 induction a with
 | nil => intro _; exact Int.le_refl _
 | cons n a ih =>
  intro h
  have h1 := h n (List.mem_cons_self ..)
  have h2 := ih fun m hm => h m (List.mem_cons_of_mem _ hm)
  rw [Xcu]; omega
theorem RA.kids {d : Nat} {ks : List (List S32)} (h : ∀ k ∈ ks, RA d k) : ∀ n ∈ ks.flatten, 0 ≤ itm n := fun n hn => by
 obtain ⟨k, q1, q2⟩ := List.mem_flatten.1 hn
 exact (h k q1).node n q2
theorem lp_RA (d : Nat) (ih : ∀ l, Xau d l = (0, 0, 0) ∨ ∃ a t D, l = a ++ t ∧ RA D a ∧ D ≤ d ∧ Xau d l = ((a.length : Int), sm a, (D : Int))) :
  ∀ (c : Nat) (r : List S32) (u m : Int) (dep : Nat), 1 ≤ u → dep ≤ d → lpS (fun l => Xau d l) c r u m dep = (0, 0, 0) ∨
   ∃ (ks : List (List S32)) (t : List S32) (D : Nat), r = ks.flatten ++ t ∧ ks.length = c ∧ (∀ k ∈ ks, RA D k) ∧ dep ≤ D ∧ D ≤ d ∧ lpS (fun l => Xau d l) c r u m dep = (u + (ks.flatten.length : Int), m + sm ks.flatten, (D : Int) + 1) := by
 intro c
 induction c with
 | zero =>
  intro r u m dep h1 h2
  refine .inr ⟨[], r, dep, by simp, rfl, by simp, Nat.le_refl _, h2, ?_⟩
  simp only [lpS, List.flatten_nil, List.length_nil, sm_nil]
  simp
 | succ c ihc =>
  intro r u m dep h1 h2
  by_cases g : (Xau d r).1 = 0 ∨ m + (Xau d r).2.1 > 1048576
  ·left; simp only [lpS, if_pos g]
  ·simp only [lpS, if_neg g]
   rcases ih r with e | ⟨a, t, D, e1, e2, e3, e4⟩
   ·exact absurd (.inl (by rw [e])) g
   ·rw [e4]
    obtain ⟨M, hM⟩ : ∃ M : Nat, mx (dep : Int) (D : Int) = (M : Int) ∧ dep ≤ M ∧ D ≤ M ∧ M ≤ d := by
     have := Xeg (dep : Int) (D : Int)
     exact ⟨(mx (dep : Int) (D : Int)).toNat, by omega, by omega, by omega, by omega⟩
    rw [hM.1, Int.toNat_natCast]
    have hdr : r.drop a.length = t := by rw [e1]; exact List.drop_left
    rw [hdr]
    have hal := e2.ne
    rcases ihc t (u + (a.length : Int)) (m + sm a) M (by omega) hM.2.2.2 with q | ⟨ks, t', D', q1, q2, q3, q4, q5, q6⟩
    ·exact .inl q
    ·refine .inr ⟨a :: ks, t', D', by rw [e1, q1, List.flatten_cons, List.append_assoc], by rw [List.length_cons, q2], ?_, by omega, q5, ?_⟩
     ·intro k hk
      rcases List.mem_cons.1 hk with rfl | hk
      ·exact e2.mono (by omega)
      ·exact q3 k hk
     ·rw [q6, List.flatten_cons, List.length_append, Xej]
      simp only [Prod.mk.injEq, and_true]
      omega
theorem first_RA : ∀ (d : Nat) (l : List S32), Xau d l = (0, 0, 0) ∨ ∃ a t D, l = a ++ t ∧ RA D a ∧ D ≤ d ∧ Xau d l = ((a.length : Int), sm a, (D : Int)) := by
 intro d
 induction d with
 | zero => intro l; left; simp only [Xau]
 | succ d ih =>
  intro l
  cases l with
  | nil => left; simp only [Xau]
  | cons n r =>
   by_cases g : itm n < 0
   ·left; simp only [Xau, if_pos g]
   ·by_cases g5 : n.f0 = 5
    ·simp only [Xau, if_neg g, if_pos g5]
     rcases lp_RA d ih (itm n).toNat r 1 (itm n) 0 (by omega) (by omega) with q | ⟨ks, t, D, q1, q2, q3, q4, q5, q6⟩
     ·exact .inl q
     ·refine .inr ⟨n :: ks.flatten, t, D + 1, by rw [q1]; rfl, ⟨n, by omega, .inr ⟨g5, ks, by omega, q3, rfl⟩⟩, by omega, ?_⟩
      have q7 : lpS (fun l => Xau d l) (itm n).toNat r 1 (itm n) 0 = _ := q6
      rw [q7, Xcu, List.length_cons]
      simp only [Prod.mk.injEq, and_true, true_and]
      omega
    ·right
     refine ⟨[n], r, 1, rfl, ⟨n, by omega, .inl ⟨g5, rfl⟩⟩, by omega, ?_⟩
     simp only [Xau, if_neg g, if_neg g5, Xcu, sm_nil, List.length_singleton, Int.add_zero]
     rfl
theorem RA_lp (d e : Nat) (hde : d ≤ e) (ih : ∀ a, RA d a → sm a ≤ 1048576 → ∀ r, ∃ D : Nat, D ≤ d ∧ 1 ≤ D ∧ Xau e (a ++ r) = ((a.length : Int), sm a, (D : Int))) :
  ∀ (ks : List (List S32)) (r : List S32) (u m : Int) (dep : Nat), (∀ k ∈ ks, RA d k) → 0 ≤ m → m + sm ks.flatten ≤ 1048576 → dep ≤ d →
   ∃ D : Nat, D ≤ d ∧ lpS (fun l => Xau e l) ks.length (ks.flatten ++ r) u m dep = (u + (ks.flatten.length : Int), m + sm ks.flatten, (D : Int) + 1) := by
 intro ks
 induction ks with
 | nil =>
  intro r u m dep h1 h2 h3 h4
  refine ⟨dep, h4, ?_⟩
  simp only [lpS, List.length_nil, List.flatten_nil, sm_nil]
  simp
 | cons a ks ihk =>
  intro r u m dep h1 h2 h3 h4
  have ha := h1 a (List.mem_cons_self ..)
  have hks : ∀ k ∈ ks, RA d k := fun k hk => h1 k (List.mem_cons_of_mem _ hk)
  rw [List.flatten_cons, Xej] at h3
  have p1 := Xei ha.node
  have p2 := Xei (RA.kids hks)
  have hal := ha.ne
  obtain ⟨D, q1, q2, q3⟩ := ih a ha (by omega) (ks.flatten ++ r)
  obtain ⟨M, hM⟩ : ∃ M : Nat, mx (dep : Int) (D : Int) = (M : Int) ∧ M ≤ d := by
   have := Xeg (dep : Int) (D : Int)
   exact ⟨(mx (dep : Int) (D : Int)).toNat, by omega, by omega⟩
  obtain ⟨D', q4, q5⟩ := ihk r (u + (a.length : Int)) (m + sm a) M hks (by omega) (by omega) hM.2
  refine ⟨D', q4, ?_⟩
  rw [List.flatten_cons, List.append_assoc, List.length_cons]
  simp only [lpS]
  rw [q3]
  simp only [Int.toNat_natCast, List.drop_left, hM.1]
  rw [if_neg (by omega)]
  have q6 : lpS (fun l => Xau e l) ks.length (ks.flatten ++ r) (u + (a.length : Int)) (m + sm a) M = _ := q5
  rw [q6, Xej, List.length_append]
  simp only [Prod.mk.injEq, and_true]
  omega
theorem RA_first : ∀ (d e : Nat), d ≤ e → ∀ a, RA d a → sm a ≤ 1048576 → ∀ r, ∃ D : Nat, D ≤ d ∧ 1 ≤ D ∧ Xau e (a ++ r) = ((a.length : Int), sm a, (D : Int)) := by
 intro d
 induction d with
 | zero => intro e he a h; exact absurd h id
 | succ d ih =>
  intro e he a h hs r
  obtain ⟨e, rfl⟩ : ∃ e', e = e' + 1 := ⟨e - 1, by omega⟩
  obtain ⟨n, h0, ⟨h1, rfl⟩ | ⟨h1, ks, k1, k2, rfl⟩⟩ := h
  ·refine ⟨1, by omega, by omega, ?_⟩
   simp only [List.cons_append, List.nil_append, Xau, if_neg (show ¬ itm n < 0 by omega), if_neg h1, Xcu, sm_nil, List.length_singleton, Int.add_zero]
   rfl
  ·rw [Xcu] at hs
   obtain ⟨D, q1, q2⟩ := RA_lp d e (by omega) (ih e (by omega)) ks r 1 (itm n) 0 k2 h0 hs (by omega)
   refine ⟨D + 1, by omega, by omega, ?_⟩
   simp only [List.cons_append, Xau, if_neg (show ¬ itm n < 0 by omega), if_pos h1]
   have q3 : lpS (fun l => Xau e l) ks.length (ks.flatten ++ r) 1 (itm n) 0 = _ := q2
   rw [show (itm n).toNat = ks.length by omega, q3, Xcu, List.length_cons]
   simp only [Prod.mk.injEq, and_true, true_and]
   omega
theorem rt_RA {a : List S32} (h : rt a = true) : ∃ D : Nat, D ≤ 16 ∧ RA D a ∧ (Xcv 0 0 [] 0 a) = ((a.length : Int), sm a, (D : Int)) ∧ sm a ≤ 1048576 := by
 unfold rt at h
 by_cases g : (a.length : Int) > 0
 ·rw [if_pos g] at h
  have ht := eq_of_beq h
  have hw := walk_is a
  unfold tk at ht
  have han := Xc3 16 a
  rcases first_RA 16 a with e | ⟨a', t, D, e1, e2, e3, e4⟩
  ·rw [hw, e] at ht; have : (0 : Int) = (a.length : Int) := ht; omega
  ·have h1 : (a'.length : Int) = (a.length : Int) := by rw [hw, e4] at ht; exact ht
   have h2 : a.length = a'.length + t.length := by rw [e1, List.length_append]
   obtain rfl : t = [] := List.eq_nil_of_length_eq_zero (by omega)
   rw [List.append_nil] at e1
   subst e1
   refine ⟨D, e3, e2, by rw [hw, e4], ?_⟩
   rcases han with c | c
   ·rw [e4] at c
    have := congrArg Prod.fst c
    simp only at this
    omega
   ·rw [e4] at c
    exact c.2.2.2.1
 ·rw [if_neg g] at h
  exact Bool.noConfusion h
theorem RA_walk {d : Nat} {a : List S32} (h : RA d a) (hd : d ≤ 16) (hs : sm a ≤ 1048576) (r : List S32) : ∃ D : Nat, D ≤ d ∧ 1 ≤ D ∧ Xcv 0 0 [] 0 (a ++ r) = ((a.length : Int), sm a, (D : Int)) := by
 rw [walk_is]
 exact RA_first d 16 hd a h hs r
theorem RA_tk {d : Nat} {a : List S32} (h : RA d a) (hd : d ≤ 16) (hs : sm a ≤ 1048576) (r : List S32) : tk (a ++ r) = (a.length : Int) := by
 obtain ⟨D, _, _, q⟩ := RA_walk h hd hs r
 unfold tk; rw [q]
theorem RA_rt {d : Nat} {a : List S32} (h : RA d a) (hd : d ≤ 16) (hs : sm a ≤ 1048576) : rt a = true := by
 have h1 := RA_tk h hd hs []
 rw [List.append_nil] at h1
 have h2 := h.ne.2
 unfold rt
 rw [if_pos (by omega), h1]
 exact BEq.rfl
def Ok2 (n : S32) : Prop := Ok n ∧ (∀ v ∈ n.f2, In64 v) ∧ n.f2.length ≤ 1048576 ∧ n.f3.length ≤ 1048576
theorem itm_val (n : S32) (ok : Ok2 n) : itm n = if (Sh.cnt n.f1).2 = true then (if gdK n.f0 (Sh.cnt n.f1).1 n.f2 n.f3 = true then (Sh.cnt n.f1).1 else -1) else -1 := by
 unfold Ok2 at ok
 exact itm_val3 n ⟨ok.1, ok.2.1, by omega, by omega⟩
def Gd (n : S32) : Prop := Ok2 n ∧ (∀ y ∈ n.f3, OkE y) ∧ n.f1.length ≤ 30
theorem copy_any (l : List S32) (h : l.length ≤ 1100000) (hf : ∀ n ∈ l, Gd n) : Xco.f l = some l := by
 unfold Xco.f
 rw [if_pos ⟨by omega, fun x hx => by have := hf x hx; unfold Gd Ok2 at this; omega⟩]
theorem rdL_at (b : List (List S32)) (m : Nat) (h : m < b.length) : Xa3 b (m : Int) = b[m] := by
 unfold Xa3
 rw [List.getD_eq_getElem?_getD, Int.toNat_natCast, List.getElem?_eq_getElem h]; rfl
theorem all_map {α β : Type} (f : α → β) (p : β → Bool) (l : List α) (h : ∀ x ∈ l, p (f x) = true) : (l.map f).all p = true := by
 rw [List.all_eq_true]
 intro y hy
 obtain ⟨x, hx, rfl⟩ := List.mem_map.1 hy
 exact h x hx
theorem wh_map (l : List Int) (hr : ∀ v ∈ l, In64 v) : (l.map ofD).map (fun y => (wh y).1) = l := by
 rw [List.map_map]
 conv => rhs; rw [← List.map_id l]
 refine List.map_congr_left fun v hv => ?_
 show (wh (ofD v)).1 = v
 rw [wh_of (Xd4 v (hr v hv)).2 (hr v hv)]
theorem leaf (n : S32) (g : Gd n) (h : 0 ≤ itm n) : Sh.cnt n.f1 = (itm n, true) ∧ gdK n.f0 (itm n) n.f2 n.f3 = true := by
 have e := itm_val n g.1
 by_cases c : (Sh.cnt n.f1).2 = true
 ·rw [if_pos c] at e
  by_cases c2 : gdK n.f0 (Sh.cnt n.f1).1 n.f2 n.f3 = true
  ·rw [if_pos c2] at e
   rw [e]
   exact ⟨Prod.ext rfl c, c2⟩
  ·rw [if_neg c2] at e; omega
 ·rw [if_neg c] at e; omega
theorem gd_len {x5 x6 a : Int} {c : List Int} {e : List S40} (h : gd x5 x6 a c e = true) : (c.length : Int) = x5 ∧ (e.length : Int) = x6 ∧ c.all (okI a) = true ∧ e.all dr = true := by
 unfold gd at h
 by_cases c1 : (c.length : Int) = x5
 ·rw [if_pos c1] at h
  by_cases c2 : (e.length : Int) = x6
  ·rw [if_pos c2, Bool.and_eq_true] at h
   exact ⟨c1, c2, h⟩
  ·rw [if_neg c2] at h; exact Bool.noConfusion h
 ·rw [if_neg c1] at h; exact Bool.noConfusion h
theorem gd_of {x5 x6 a : Int} {c : List Int} {e : List S40} (h1 : (c.length : Int) = x5) (h2 : (e.length : Int) = x6) (h3 : c.all (okI a) = true) (h4 : e.all dr = true) : gd x5 x6 a c e = true := by
 unfold gd
 rw [if_pos h1, if_pos h2, h3, h4]; rfl
theorem Xdr {a x : Int} {c : List Int} {e : List S40} (h : gdK a x c e = true) : ((a = 1 ∨ a = 2 ∨ a = 3) ∧ gd x 0 a c e = true) ∨ (a = 4 ∧ gd 0 x a c e = true) ∨ (a = 5 ∧ gd 0 0 a c e = true) := by
 unfold gdK at h
 by_cases c1 : a = 1 ∨ a = 2 ∨ a = 3
 ·rw [if_pos c1] at h; exact .inl ⟨c1, h⟩
 ·rw [if_neg c1] at h
  by_cases c2 : a = 4
  ·rw [if_pos c2] at h; exact .inr (.inl ⟨c2, h⟩)
  ·rw [if_neg c2] at h
   by_cases c3 : a = 5
   ·rw [if_pos c3] at h; exact .inr (.inr ⟨c3, h⟩)
   ·rw [if_neg c3] at h; exact Bool.noConfusion h
theorem nil_of {α : Type} {l : List α} (h : (l.length : Int) = 0) : l = [] := List.eq_nil_of_length_eq_zero (by omega)
theorem ofs_ok (l : List Int) (hr : ∀ v ∈ l, In64 v) : ∀ y ∈ l.map ofD, OkE y := fun y hy => by
 obtain ⟨v, hv, rfl⟩ := List.mem_map.1 hy
 exact (Xd4 v (hr v hv)).2.ok (hr v hv)
theorem ofs_dr (l : List Int) (hr : ∀ v ∈ l, In64 v) : (l.map ofD).all dr = true := all_map _ _ _ fun v hv => dr_of (Xd4 v (hr v hv)).2 (hr v hv)
theorem ofs_wh (l : List Int) (hr : ∀ v ∈ l, In64 v) : (l.map ofD).all (fun y => (wh y).2) = true := all_map _ _ _ fun v hv => by rw [wh_of (Xd4 v (hr v hv)).2 (hr v hv)]
theorem numS_ok (n : S32) (g : Gd n) : (∀ y ∈ Xc1 n, OkE y) ∧ (Xc1 n).length ≤ 1048576 := by
 have h := g.1
 unfold Ok2 at h
 unfold Xc1
 by_cases c : n.f0 = 4
 ·rw [if_pos c]; exact ⟨g.2.1, by omega⟩
 ·rw [if_neg c]; exact ⟨ofs_ok _ h.2.1, by rw [List.length_map]; omega⟩
theorem numS_leaf (n : S32) (g : Gd n) (h : 0 ≤ itm n) (h3 : n.f0 ≠ 3) (h5 : n.f0 ≠ 5) : ((Xc1 n).length : Int) = itm n ∧ (Xc1 n).all dr = true := by
 have hg := g.1
 unfold Ok2 at hg
 unfold Xc1
 rcases Xdr (leaf n g h).2 with ⟨c, d⟩ | ⟨c, d⟩ | ⟨c, d⟩
 ·have q := gd_len d
  rw [if_neg (by omega), List.length_map]
  exact ⟨q.1, ofs_dr _ hg.2.1⟩
 ·have q := gd_len d
  rw [if_pos c]
  exact ⟨q.2.1, q.2.2.2⟩
 ·exact absurd c h5
noncomputable def nd (s : List Int) (l : List S40) : S32 := ⟨(nbS s l).1, (nbS s l).2.1, (nbS s l).2.2.1, (nbS s l).2.2.2.1⟩
theorem nbS_iff (s : List Int) (l : List S40) : (nbS s l).2.2.2.2 = true → (Sh.cnt s).2 = true ∧ (Sh.cnt s).1 = (l.length : Int) ∧ l.all dr = true := by
 intro h
 unfold nbS at h
 by_cases c : (Sh.cnt s).2 = true ∧ (Sh.cnt s).1 = (l.length : Int) ∧ l.all dr = true
 ·exact c
 ·rw [if_neg c] at h; exact Bool.noConfusion h
theorem nd_good (s : List Int) (l : List S40) (hs : s.length ≤ 30) (hl : l.length ≤ 1048576) (ok : ∀ y ∈ l, OkE y) (hc : Sh.cnt s = ((l.length : Int), true)) (hd : l.all dr = true) :
    (nbS s l).2.2.2.2 = true ∧ (nd s l).f1 = s ∧ (nd s l).f0 ≠ 3 ∧ (nd s l).f0 ≠ 5 ∧ Gd (nd s l) ∧ itm (nd s l) = (l.length : Int) ∧ nbS s (Xc1 (nd s l)) = nbS s l := by
  have hcnd : (Sh.cnt s).2 = true ∧ (Sh.cnt s).1 = (l.length : Int) ∧ l.all dr = true := ⟨by rw [hc], by rw [hc], hd⟩
  by_cases hw : l.all (fun y => (wh y).2) = true
  · have hr : ∀ v ∈ l.map (fun y => (wh y).1), In64 v := fun v hv => by
      obtain ⟨y, hy, rfl⟩ := List.mem_map.1 hv
      exact (wh_ev y (ok y hy)).2
    have hlen : (l.map (fun y => (wh y).1)).length = l.length := List.length_map _
    have e : nbS s l = ((if 0 < l.length ∧ (l.map (fun y => (wh y).1)).all bit = true then 1 else 2), s, l.map (fun y => (wh y).1), [], true) := by
      unfold nbS; rw [if_pos hcnd, if_pos hw]
    have en : nd s l = ⟨if 0 < l.length ∧ (l.map (fun y => (wh y).1)).all bit = true then 1 else 2, s, l.map (fun y => (wh y).1), []⟩ := by unfold nd; rw [e]
    generalize hi : l.map (fun y => (wh y).1) = is at hr hlen e en
    obtain ⟨kd, hk, hk2⟩ : ∃ kd : Int, (if 0 < l.length ∧ is.all bit = true then (1 : Int) else 2) = kd ∧ ((kd = 1 ∧ is.all bit = true) ∨ kd = 2) := by
      by_cases c : 0 < l.length ∧ is.all bit = true
      · exact ⟨1, if_pos c, .inl ⟨rfl, c.2⟩⟩
      · exact ⟨2, if_neg c, .inr rfl⟩
    have hn : Xc1 (nd s l) = is.map ofD := by
      rw [en]; unfold Xc1
      rw [if_neg (show ¬ (if 0 < l.length ∧ is.all bit = true then (1 : Int) else 2) = 4 by rw [hk]; omega)]
    have hg : Gd (nd s l) := by
      rw [en]
      exact ⟨⟨fun y hy => by simp at hy, hr, by show is.length ≤ 1048576; omega, by show 0 ≤ 1048576; omega⟩, by simp, hs⟩
    refine ⟨by rw [e], by rw [en], by rw [en]; show (if 0 < l.length ∧ is.all bit = true then (1 : Int) else 2) ≠ 3; rw [hk]; omega, by rw [en]; show (if 0 < l.length ∧ is.all bit = true then (1 : Int) else 2) ≠ 5; rw [hk]; omega, hg, ?_, ?_⟩
    · rw [itm_val _ hg.1, en]
      show (if (Sh.cnt s).2 = true then _ else _) = _
      rw [if_pos hcnd.1, if_pos, hcnd.2.1]
      show gdK (if 0 < l.length ∧ is.all bit = true then (1 : Int) else 2) (Sh.cnt s).1 is [] = true
      rw [hk, hcnd.2.1]
      unfold gdK
      rw [if_pos (by omega)]
      refine gd_of (by omega) rfl ?_ rfl
      rcases hk2 with ⟨c1, c2⟩ | c1
      · rw [c1]; exact c2
      · rw [c1, List.all_eq_true]; intro v hv; rfl
    · rw [hn, e, hk]
      unfold nbS
      rw [if_pos ⟨hcnd.1, by rw [List.length_map, hlen]; exact hcnd.2.1, ofs_dr is hr⟩, if_pos (ofs_wh is hr), wh_map is hr, List.length_map, hlen, hk]
  · have e : nbS s l = (4, s, [], l, true) := by unfold nbS; rw [if_pos hcnd, if_neg hw]
    have en : nd s l = ⟨4, s, [], l⟩ := by unfold nd; rw [e]
    have hg : Gd (nd s l) := by
      rw [en]
      exact ⟨⟨fun y hy => (ok y hy).d, by simp, by show 0 ≤ 1048576; omega, hl⟩, ok, hs⟩
    refine ⟨by rw [e], by rw [en], by rw [en]; show (4 : Int) ≠ 3; decide, by rw [en]; show (4 : Int) ≠ 5; decide, hg, ?_, ?_⟩
    · rw [itm_val _ hg.1, en]
      show (if (Sh.cnt s).2 = true then _ else _) = _
      rw [if_pos hcnd.1, if_pos, hcnd.2.1]
      show gdK 4 (Sh.cnt s).1 [] l = true
      rw [hcnd.2.1]
      unfold gdK
      rw [if_neg (by omega), if_pos rfl]
      exact gd_of rfl rfl rfl hd
    · rw [en]; unfold Xc1; rw [if_pos rfl]
theorem nd_form (s : List Int) (l : List S40) (hs : s.length ≤ 30) (hl : l.length ≤ 1048576) (ok : ∀ y ∈ l, OkE y) (hc : Sh.cnt s = ((l.length : Int), true)) (hd : l.all dr = true) : Ev (fun k => tight_form.f k [nd s l]) [nd s l] := by
 obtain ⟨q1, q2, q3, q4, q5, q6, q7⟩ := nd_good s l hs hl ok hc hd
 have h := q5.1
 unfold Ok2 at h
 have := form_one (nd s l) q3 q4 h.2.1 q5.2.1 (by rw [q2]; omega) (by omega) (by omega)
 rw [q2, q7] at this
 exact this
theorem form_char (l : List S32) (h : l.length ≤ 1100000) (hp : 0 < l.length) (h3 : (Xa l 0).f0 = 3) (hf : ∀ n ∈ l, Gd n) : Ev (fun k => tight_form.f k l) l := by
 refine Ev.succ ?_
 simp only [tight_form.f, if_pos (show (0 : Int) < (l.length : Int) by omega), if_pos h3, copy_any l h hf, Option.bind_some]
 exact Ev.const _
noncomputable def hd0 (k : List S32) : S32 := Xa k 0
theorem hd0_cons (n : S32) (r : List S32) : hd0 (n :: r) = n := rfl
noncomputable def jbad (k : List S32) : Bool := decide (0 < (hd0 k).f1.length) || (hd0 k).f0 == 5
noncomputable def jch (k : List S32) : List Int := if (hd0 k).f0 = 3 then (hd0 k).f2 else []
noncomputable def jal (k : List S32) : List S40 := if (hd0 k).f0 = 3 then [] else Xc1 (hd0 k)
noncomputable def jend (s : List Int) (m : Nat) (C : List Int) (A : List S40) : Int × List Int × List Int × List S40 × Bool := if C.length = m ∧ 0 < m then (3, s, C, [], true) else nbS s A
noncomputable def jnS (s : List Int) (ks : List (List S32)) : Int × List Int × List Int × List S40 × Bool := if ks.any jbad = true then (0, [], [], [], false) else jend s ks.length (ks.map jch).flatten (ks.map jal).flatten
theorem joined_loop (s : List Int) (ks : List (List S32)) (hs : s.length ≤ 30) (hl : ks.length ≤ 1100000) (hk : ∀ k ∈ ks, 1 ≤ k.length ∧ Gd (hd0 k)) : ∀ d i (C : List Int) (A : List S40), i ≤ ks.length → ks.length - i = d → C.length ≤ 1048576 * i → A.length ≤ 1048576 * i → (∀ y ∈ A, OkE y) →
  Ev (fun k => Xaa.l0 k s ks A ks (ks.length : Int) (i : Int) 3 s C) (if (ks.drop i).any jbad = true then (0, [], [], [], false) else jend s ks.length (C ++ ((ks.drop i).map jch).flatten) (A ++ ((ks.drop i).map jal).flatten)) := by
 intro d
 induction d with
 | zero =>
  intro i C A h1 h2 h3 h4 h5
  rw [List.drop_eq_nil_of_le (by omega)]
  simp only [List.any_nil, Bool.false_eq_true, if_false, List.map_nil, List.flatten_nil, List.append_nil]
  have hn := numbers_ev s A h5 (by omega) (by omega)
  refine Ev.succ ?_
  simp only [Xaa.l0, if_neg (show ¬ ((i : Int) < (ks.length : Int)) by omega)]
  unfold jend
  by_cases c1 : (C.length : Int) = (ks.length : Int)
  ·simp only [if_pos c1]
   by_cases c2 : (ks.length : Int) > 0
   ·simp only [if_pos c2]
    rw [if_pos ⟨by omega, by omega⟩]
    exact Ev.const _
   ·simp only [if_neg c2]
    rw [if_neg (fun h => c2 (by omega))]
    exact Ev.bind hn (Ev.const _)
  ·simp only [if_neg c1]
   rw [if_neg (fun h => c1 (by omega))]
   exact Ev.bind hn (Ev.const _)
 | succ d ih =>
  intro i C A h1 h2 h3 h4 h5
  have hi : i < ks.length := by omega
  obtain ⟨m1, m2⟩ := hk ks[i] (List.getElem_mem _)
  have hg := m2.1
  unfold Ok2 at hg
  rw [List.drop_eq_getElem_cons hi, List.any_cons, List.map_cons, List.map_cons, List.flatten_cons, List.flatten_cons]
  refine Ev.succ ?_
  simp only [Xaa.l0, if_pos (show ((i : Int) < (ks.length : Int)) by omega), if_pos (show (0 : Int) ≤ (i : Int) by omega), rdL_at ks i hi, if_pos (show (0 : Int) < ((ks[i]).length : Int) by omega)]
  rw [show Xa (ks[i]) 0 = hd0 ks[i] from rfl]
  have hbad : jbad ks[i] = true → Ev (fun k => Xaa.j1 k s ks A ks (ks.length : Int) (i : Int) true 3 s C (hd0 ks[i]).f0 (hd0 ks[i]).f1 (hd0 ks[i]).f2 (hd0 ks[i]).f3) (if (jbad ks[i] || (ks.drop (i + 1)).any jbad) = true then (0, [], [], [], false) else jend s ks.length (C ++ (jch ks[i] ++ ((ks.drop (i + 1)).map jch).flatten)) (A ++ (jal ks[i] ++ ((ks.drop (i + 1)).map jal).flatten))) := by
   intro hb
   rw [hb, Bool.true_or, if_pos rfl]
   exact Ev.succ (by simp only [Xaa.j1, if_true]; exact Ev.const _)
  by_cases c1 : (((hd0 ks[i]).f1.length : Nat) : Int) > 0
  ·simp only [if_pos c1]
   exact hbad (by unfold jbad; rw [decide_eq_true (by omega)]; rfl)
  ·simp only [if_neg c1]
   by_cases c2 : (hd0 ks[i]).f0 = 5
   ·have hb : ((hd0 ks[i]).f0 == 5) = true := beq_iff_eq.mpr c2
    rw [hb]
    exact hbad (by unfold jbad; rw [hb, Bool.or_true])
   ·have hb : ((hd0 ks[i]).f0 == 5) = false := beq_eq_false_iff_ne.mpr c2
    have hb2 : jbad ks[i] = false := by unfold jbad; rw [hb, Bool.or_false]; exact decide_eq_false (by omega)
    rw [hb, hb2, Bool.false_or]
    refine Ev.succ ?_
    simp only [Xaa.j1, Bool.false_eq_true, if_false, ix hi (show ks.length ≤ 9223372036854775807 by omega)]
    by_cases c3 : (hd0 ks[i]).f0 = 3
    ·have e1 : jch ks[i] = (hd0 ks[i]).f2 := if_pos c3
     have e2 : jal ks[i] = [] := if_pos c3
     rw [e1, e2, List.nil_append, ← List.append_assoc]
     simp only [if_pos c3, if_pos (show C.length + (hd0 ks[i]).f2.length < 17592186044416 by omega)]
     exact ih (i + 1) (C ++ (hd0 ks[i]).f2) A (by omega) (by omega) (by rw [List.length_append]; omega) (by omega) h5
    ·have e1 : jch ks[i] = [] := if_neg c3
     have e2 : jal ks[i] = Xc1 (hd0 ks[i]) := if_neg c3
     have hn := numS_ok (hd0 ks[i]) m2
     rw [e1, e2, List.nil_append, ← List.append_assoc]
     simp only [if_neg c3]
     refine Ev.bind (nums_ev (hd0 ks[i]) hg.2.1 (by omega)) ?_
     simp only [if_pos (show A.length + (Xc1 (hd0 ks[i])).length < 8796093022208 by omega)]
     exact ih (i + 1) C (A ++ Xc1 (hd0 ks[i])) (by omega) (by omega) (by omega) (by rw [List.length_append]; omega) (fun y hy => (List.mem_append.1 hy).elim (h5 y) (hn.1 y))
theorem joined_ev (s : List Int) (ks : List (List S32)) (hs : s.length ≤ 30) (hl : ks.length ≤ 1100000) (hk : ∀ k ∈ ks, 1 ≤ k.length ∧ Gd (hd0 k)) : Ev (fun k => Xaa.f k s ks) (jnS s ks) := by
 have := joined_loop s ks hs hl hk ks.length 0 [] [] (by omega) (by omega) (by simp) (by simp) (by simp)
 rw [List.drop_zero, List.nil_append, List.nil_append] at this
 simp only [Xaa.f, Xam.f, Option.bind_some, List.length_nil, Nat.zero_add, List.nil_append, if_pos (show s.length < 17592186044416 by omega)]
 exact this
theorem cat1 (ks : List (List S32)) (hl : ks.length ≤ 1100000) (hf : ks.flatten.length ≤ 1100000) : ∀ d i (x : List S32), i ≤ ks.length → ks.length - i = d → x.length + (ks.drop i).flatten.length ≤ 1100000 → Ev (fun k => Xan.l1 k x ks (ks.length : Int) (i : Int)) (x ++ (ks.drop i).flatten) := by
 intro d
 induction d with
 | zero =>
  intro i x h1 h2 h3
  rw [List.drop_eq_nil_of_le (show ks.length ≤ i by omega), List.flatten_nil, List.append_nil]
  refine Ev.succ ?_
  simp only [Xan.l1, if_neg (show ¬ ((i : Int) < (ks.length : Int)) by omega)]
  exact Ev.const _
 | succ d ih =>
  intro i x h1 h2 h3
  have hi : i < ks.length := by omega
  rw [List.drop_eq_getElem_cons hi, List.flatten_cons] at h3 ⊢
  rw [List.length_append] at h3
  refine Ev.succ ?_
  simp only [Xan.l1, if_pos (show ((i : Int) < (ks.length : Int)) by omega), if_pos (show (0 : Int) ≤ (i : Int) by omega), rdL_at ks i hi, ix hi (by omega), if_pos (show x.length + ks[i].length < 1759218604441 by omega)]
  rw [← List.append_assoc]
  exact ih (i + 1) (x ++ ks[i]) (by omega) (by omega) (by rw [List.length_append]; omega)
theorem cat0 (ks : List (List S32)) (hl : ks.length ≤ 1100000) (hf : ks.flatten.length ≤ 1100000) : ∀ d i (x : Int), i ≤ ks.length → ks.length - i = d → 0 ≤ x → x + ((ks.drop i).flatten.length : Int) ≤ 1100000 → Ev (fun k => Xan.l0 k ks x ks (ks.length : Int) (i : Int)) ks.flatten := by
 intro d
 induction d with
 | zero =>
  intro i x h1 h2 h3 h4
  refine Ev.succ ?_
  simp only [Xan.l0, if_neg (show ¬ ((i : Int) < (ks.length : Int)) by omega), Xc4.f, if_pos (show 0 ≤ x ∧ x.toNat * 80 ≤ 140737488355328 by omega)]
  refine Ev.bind (Ev.const _) ?_
  have := cat1 ks hl hf ks.length 0 [] (by omega) (by omega) (by simp only [List.length_nil, List.drop_zero]; omega)
  rw [List.nil_append, List.drop_zero] at this
  exact this
 | succ d ih =>
  intro i x h1 h2 h3 h4
  have hi : i < ks.length := by omega
  rw [List.drop_eq_getElem_cons hi, List.flatten_cons, List.length_append] at h4
  have hw : wrap64 (x + (ks[i].length : Int)) = x + (ks[i].length : Int) := w64 (by omega) (by omega)
  refine Ev.succ ?_
  simp only [Xan.l0, if_pos (show ((i : Int) < (ks.length : Int)) by omega), if_pos (show (0 : Int) ≤ (i : Int) by omega), rdL_at ks i hi, ix hi (by omega), hw, if_neg (show ¬ (x + (ks[i].length : Int) < 0) by omega)]
  exact ih (i + 1) _ (by omega) (by omega) (by omega) (by omega)
theorem cat_ev (ks : List (List S32)) (hl : ks.length ≤ 1100000) (hf : ks.flatten.length ≤ 1100000) : Ev (fun k => Xan.f k ks) ks.flatten := by
 simp only [Xan.f]
 exact cat0 ks hl hf ks.length 0 0 (by omega) (by omega) (by omega) (by rw [List.drop_zero]; omega)
noncomputable def res (s : List Int) (ks : List (List S32)) : List S32 := if (jnS s ks).2.2.2.2 = true then [⟨(jnS s ks).1, (jnS s ks).2.1, (jnS s ks).2.2.1, (jnS s ks).2.2.2.1⟩] else ⟨5, s, [], []⟩ :: ks.flatten
theorem formk_loop (n0 : Int) (s n2 : List Int) (n3 : List S40) (ks ks' : List (List S32)) (hs : s.length ≤ 30) (he : ks.length = ks'.length) (hl : ks'.length ≤ 1100000) (hf : ks'.flatten.length ≤ 1095000) (hk : ∀ k ∈ ks', 1 ≤ k.length ∧ Gd (hd0 k))
  (hev : ∀ i (h : i < ks.length) (h' : i < ks'.length), Ev (fun k => tight_form.f k ks[i]) ks'[i]) : ∀ d i, i ≤ ks.length → ks.length - i = d → Ev (fun k => tight_form.l0 k (ks'.take i ++ ks.drop i) (ks.length : Int) (i : Int) n0 s n2 n3) (res s ks') := by
 intro d
 induction d with
 | zero =>
  intro i h1 h2
  rw [List.drop_eq_nil_of_le (by omega), List.append_nil, List.take_of_length_le (by omega)]
  refine Ev.succ ?_
  simp only [tight_form.l0, if_neg (show ¬ ((i : Int) < (ks.length : Int)) by omega)]
  refine Ev.bind (joined_ev s ks' hs hl hk) ?_
  unfold res
  by_cases c : (jnS s ks').2.2.2.2 = true
  ·simp only [if_pos c]; exact Ev.const _
  ·simp only [if_neg c, Xam.f, Option.bind_some, List.length_nil, Nat.zero_add, List.nil_append, if_pos (show s.length < 17592186044416 by omega)]
   refine Ev.bind (cat_ev ks' hl (by omega)) ?_
   simp only [List.length_cons, List.length_nil, if_pos (show 0 + 1 + ks'.flatten.length < 1759218604441 by omega), List.cons_append, List.nil_append]
   exact Ev.const _
 | succ d ih =>
  intro i h1 h2
  have hi : i < ks.length := by omega
  have hi' : i < ks'.length := by omega
  have htl : (ks'.take i).length = i := by rw [List.length_take]; omega
  have hlen : (ks'.take i ++ ks.drop i).length = ks.length := by rw [List.length_append, htl, List.length_drop]; omega
  have hrd : Xa3 (ks'.take i ++ ks.drop i) (i : Int) = ks[i] := by
   rw [rdL_at _ i (by omega), List.getElem_append_right (by omega)]
   simp only [htl, Nat.sub_self, List.getElem_drop, Nat.add_zero]
  have hset : (ks'.take i ++ ks.drop i).set i ks'[i] = ks'.take (i + 1) ++ ks.drop (i + 1) := by
   rw [List.set_append_right _ _ (by omega), htl, Nat.sub_self, List.drop_eq_getElem_cons hi, List.set_cons_zero, List.take_succ_eq_append_getElem hi', List.append_assoc, List.singleton_append]
  refine Ev.succ ?_
  simp only [tight_form.l0, if_pos (show ((i : Int) < (ks.length : Int)) by omega), if_pos (show (0 : Int) ≤ (i : Int) by omega), hlen, hrd, Int.toNat_natCast, ix hi (show ks.length ≤ 9223372036854775807 by omega)]
  refine Ev.bind (hev i hi hi') ?_
  rw [hset]
  exact ih (i + 1) (by omega) (by omega)
theorem kidl_ev (d : Nat) (hd : d ≤ 16) : ∀ (ks acc : List (List S32)), (∀ k ∈ ks, RA d k) → sm ks.flatten ≤ 1048576 → (∀ n ∈ ks.flatten, Gd n) → ks.flatten.length ≤ 1100000 → acc.length + ks.length ≤ 2200000 → Ev (fun k => array_Kids.l0 k ks.flatten acc) (acc ++ ks) := by
 intro ks
 induction ks with
 | nil =>
  intro acc h1 h2 h3 h4 h5
  refine Ev.succ ?_
  simp only [array_Kids.l0, List.flatten_nil, List.length_nil, if_neg (show ¬ (((0 : Nat) : Int) > 0) by decide), List.append_nil]
  exact Ev.const _
 | cons a ks ih =>
  intro acc h1 h2 h3 h4 h5
  have ha := h1 a (List.mem_cons_self ..)
  have hks : ∀ k ∈ ks, RA d k := fun k hk => h1 k (List.mem_cons_of_mem _ hk)
  rw [List.flatten_cons] at h2 h3 h4 ⊢
  rw [Xej] at h2
  rw [List.length_append] at h4
  rw [List.length_cons] at h5
  have p1 := Xei ha.node
  have p2 := Xei (RA.kids hks)
  have hal := ha.ne
  have ht := take_ev (a ++ ks.flatten) (fun n hn => (h3 n hn).1.1) (by rw [List.length_append]; omega)
  rw [RA_tk ha hd (by omega) ks.flatten] at ht
  refine Ev.succ ?_
  simp only [array_Kids.l0, List.length_append, if_pos (show (((a.length + ks.flatten.length : Nat) : Int) > 0) by omega)]
  refine Ev.bind ht ?_
  simp only [if_pos (show (0 : Int) ≤ (a.length : Int) by omega), if_pos (show (a.length : Int) ≤ ((a.length + ks.flatten.length : Nat) : Int) by omega), Int.toNat_natCast, List.take_left, List.drop_left]
  rw [copy_any a (by omega) (fun n hn => h3 n (List.mem_append_left _ hn))]
  refine Ev.bind (Ev.const _) ?_
  simp only [if_pos (show acc.length < 5864062014805 by omega)]
  have := ih (acc ++ [a]) hks (by omega) (fun n hn => h3 n (List.mem_append_right _ hn)) (by omega) (by rw [List.length_append, List.length_singleton]; omega)
  rw [List.append_assoc] at this
  exact this
theorem kids_ev (d : Nat) (hd : d ≤ 15) (n : S32) (ks : List (List S32)) (h5 : n.f0 = 5) (hi : itm n = (ks.length : Int)) (hk : ∀ k ∈ ks, RA d k) (hs : sm (n :: ks.flatten) ≤ 1048576) (hg : ∀ m ∈ n :: ks.flatten, Gd m) (hl : (n :: ks.flatten).length ≤ 1100000) (hl2 : ks.length ≤ 1100000) : Ev (fun k => array_Kids.f k (n :: ks.flatten)) ks := by
 have hra : RA (d + 1) (n :: ks.flatten) := ⟨n, by omega, .inr ⟨h5, ks, hi, hk, rfl⟩⟩
 have hr := right_ev (n :: ks.flatten) (fun m hm => (hg m hm).1.1) (by omega)
 rw [RA_rt hra (by omega) hs] at hr
 rw [Xcu] at hs
 simp only [List.length_cons] at hl
 simp only [array_Kids.f]
 refine Ev.bind hr ?_
 simp only [if_true, List.length_cons, if_pos (show (0 : Int) < ((ks.flatten.length + 1 : Nat) : Int) by omega), show Xa (n :: ks.flatten) 0 = n from rfl, h5]
 refine Ev.succ ?_
 simp only [array_Kids.j0, show ((5 : Int) != 5) = false from rfl, Bool.false_eq_true, if_false, List.length_cons, if_pos (show (1 : Int) ≤ ((ks.flatten.length + 1 : Nat) : Int) by omega), List.drop_succ_cons, List.drop_zero]
 exact kidl_ev d (by omega) ks [] hk (by omega) (fun m hm => hg m (List.mem_cons_of_mem _ hm)) (by omega) (by simp only [List.length_nil]; omega)
theorem form_nest (d : Nat) (hd : d ≤ 15) (n : S32) (ks ks' : List (List S32)) (h5 : n.f0 = 5) (hi : itm n = (ks.length : Int)) (hk : ∀ k ∈ ks, RA d k) (hs : sm (n :: ks.flatten) ≤ 1048576) (hg : ∀ m ∈ n :: ks.flatten, Gd m) (hl : (n :: ks.flatten).length ≤ 1090000) (hl2 : ks.length ≤ 1090000)
  (he : ks.length = ks'.length) (hf : ks'.flatten.length ≤ 1095000) (hk' : ∀ k ∈ ks', 1 ≤ k.length ∧ Gd (hd0 k)) (hev : ∀ i (h : i < ks.length) (h' : i < ks'.length), Ev (fun k => tight_form.f k ks[i]) ks'[i]) : Ev (fun k => tight_form.f k (n :: ks.flatten)) (res n.f1 ks') := by
 refine Ev.succ ?_
 simp only [tight_form.f, List.length_cons, if_pos (show (0 : Int) < ((ks.flatten.length + 1 : Nat) : Int) by omega), show Xa (n :: ks.flatten) 0 = n from rfl]
 simp only [if_neg (show ¬ n.f0 = 3 by omega), if_pos h5]
 refine Ev.bind (kids_ev d hd n ks h5 hi hk hs hg (by omega) (by omega)) ?_
 have := formk_loop n.f0 n.f1 n.f2 n.f3 ks ks' (hg n (List.mem_cons_self ..)).2.2 he (by omega) hf hk' hev ks.length 0 (by omega) (by omega)
 rw [List.take_zero, List.nil_append, List.drop_zero] at this
 exact this
def FP (d : Nat) (a b : List S32) : Prop := Ev (fun k => tight_form.f k a) b ∧ RA d b ∧ (∀ n ∈ b, Gd n) ∧ b.length ≤ a.length ∧ sm b ≤ sm a ∧ Ev (fun k => tight_form.f k b) b ∧ (hd0 b).f1 = (hd0 a).f1
noncomputable def fm (a : List S32) : List S32 := open Classical in if h : ∃ b, Ev (fun k => tight_form.f k a) b then h.choose else []
theorem fm_of {a b : List S32} (h : Ev (fun k => tight_form.f k a) b) : fm a = b := by
 have e : ∃ b, Ev (fun k => tight_form.f k a) b := ⟨b, h⟩
 unfold fm
 rw [dif_pos e]
 exact Ev.uniq e.choose_spec h
theorem len_mem {α : Type} {ks : List (List α)} {k : List α} (h : k ∈ ks) : k.length ≤ ks.flatten.length := by
 induction ks with
 | nil => exact absurd h (List.not_mem_nil)
 | cons a ks ih =>
  rw [List.flatten_cons, List.length_append]
  rcases List.mem_cons.1 h with rfl | h
  ·omega
  ·have := ih h; omega
theorem sm_mem {ks : List (List S32)} {k : List S32} (hp : ∀ n ∈ ks.flatten, 0 ≤ itm n) (h : k ∈ ks) : sm k ≤ sm ks.flatten := by
 induction ks with
 | nil => exact absurd h (List.not_mem_nil)
 | cons a ks ih =>
  rw [List.flatten_cons] at hp
  have p1 := Xei fun n hn => hp n (List.mem_append_left _ hn)
  have p2 := Xei fun n hn => hp n (List.mem_append_right _ hn)
  rw [List.flatten_cons, Xej]
  rcases List.mem_cons.1 h with rfl | h
  ·omega
  ·have := ih (fun n hn => hp n (List.mem_append_right _ hn)) h; omega
theorem len_count {α : Type} {ks : List (List α)} (h : ∀ k ∈ ks, 1 ≤ k.length) : ks.length ≤ ks.flatten.length := by
 induction ks with
 | nil => simp
 | cons a ks ih =>
  have h1 := h a (List.mem_cons_self ..)
  have h2 := ih fun k hk => h k (List.mem_cons_of_mem _ hk)
  rw [List.flatten_cons, List.length_append, List.length_cons]; omega
theorem flat_map_le {ks : List (List S32)} {f : List S32 → List S32} (h : ∀ k ∈ ks, (f k).length ≤ k.length ∧ sm (f k) ≤ sm k) : (ks.map f).flatten.length ≤ ks.flatten.length ∧ sm (ks.map f).flatten ≤ sm ks.flatten := by
 induction ks with
 | nil => simp
 | cons a ks ih =>
  have h1 := h a (List.mem_cons_self ..)
  have h2 := ih fun k hk => h k (List.mem_cons_of_mem _ hk)
  rw [List.map_cons, List.flatten_cons, List.flatten_cons, List.length_append, List.length_append, Xej, Xej]; omega
theorem cnt_nil : Sh.cnt [] = (1, true) := by decide
theorem one_kid {d : Nat} {k : List S32} (h : RA d k) (hg : ∀ n ∈ k, Gd n) (hb : jbad k = false) : ∃ m, k = [m] ∧ m.f0 ≠ 5 ∧ m.f1 = [] ∧ itm m = 1 ∧ Gd m ∧ (m.f0 = 3 → m.f2.length = 1 ∧ m.f3 = [] ∧ m.f2.all (okI 3) = true ∧ (∀ v ∈ m.f2, In64 v)) ∧ (m.f0 ≠ 3 → (Xc1 m).length = 1 ∧ (Xc1 m).all dr = true) := by
 unfold jbad at hb
 rw [Bool.or_eq_false_iff] at hb
 cases d with
 | zero => exact absurd h id
 | succ d =>
  obtain ⟨m, h0, ⟨h1, rfl⟩ | ⟨h1, ks, k1, k2, rfl⟩⟩ := h
  ·have g := hg m (List.mem_singleton.2 rfl)
   rw [hd0_cons] at hb
   have hf1 : m.f1 = [] := List.eq_nil_of_length_eq_zero (by have := of_decide_eq_false hb.1; omega)
   have hl := leaf m g h0
   have hi : itm m = 1 := by
    have := hl.1
    rw [hf1, cnt_nil] at this
    exact (congrArg Prod.fst this).symm
   refine ⟨m, rfl, h1, hf1, hi, g, fun h3 => ?_, fun h3 => ?_⟩
   ·rcases Xdr hl.2 with ⟨c, q⟩ | ⟨c, q⟩ | ⟨c, q⟩
    ·have := gd_len q
     rw [h3] at this
     exact ⟨by omega, nil_of this.2.1, this.2.2.1, g.1.2.1⟩
    ·omega
    ·omega
   ·have := numS_leaf m g h0 h3 h1
    exact ⟨by omega, this.2⟩
  ·rw [hd0_cons, h1] at hb
   exact absurd hb.2 (by decide)
theorem join_kids {d : Nat} {ks : List (List S32)} (h : ∀ k ∈ ks, RA d k) (hg : ∀ k ∈ ks, ∀ n ∈ k, Gd n) (hb : ks.any jbad = false) :
  (ks.map jch).flatten.length + (ks.map jal).flatten.length = ks.length ∧ (ks.map jch).flatten.all (okI 3) = true ∧ (∀ v ∈ (ks.map jch).flatten, In64 v) ∧ (∀ y ∈ (ks.map jal).flatten, OkE y) := by
 induction ks with
 | nil => simp
 | cons k ks ih =>
  rw [List.any_cons, Bool.or_eq_false_iff] at hb
  obtain ⟨q1, q2, q3, q4⟩ := ih (fun x hx => h x (List.mem_cons_of_mem _ hx)) (fun x hx => hg x (List.mem_cons_of_mem _ hx)) hb.2
  obtain ⟨m, p1, p2, p3, p4, p5, p6, p7⟩ := one_kid (h k (List.mem_cons_self ..)) (hg k (List.mem_cons_self ..)) hb.1
  have hm : hd0 k = m := by rw [p1]; rfl
  rw [List.map_cons, List.map_cons, List.flatten_cons, List.flatten_cons, List.length_append, List.length_append, List.length_cons, List.all_append]
  by_cases c : m.f0 = 3
  ·have e1 : jch k = m.f2 := by unfold jch; rw [hm, if_pos c]
   have e2 : jal k = [] := by unfold jal; rw [hm, if_pos c]
   obtain ⟨r1, r2, r3, r4⟩ := p6 c
   rw [e1, e2, r3, q2]
   exact ⟨by simp only [List.length_nil]; omega, rfl, fun v hv => (List.mem_append.1 hv).elim (r4 v) (q3 v), fun y hy => by rw [List.nil_append] at hy; exact q4 y hy⟩
  ·have e1 : jch k = [] := by unfold jch; rw [hm, if_neg c]
   have e2 : jal k = Xc1 m := by unfold jal; rw [hm, if_neg c]
   obtain ⟨r1, r2⟩ := p7 c
   rw [e1, e2, q2]
   exact ⟨by simp only [List.length_nil]; omega, rfl, fun v hv => by rw [List.nil_append] at hv; exact q3 v hv, fun y hy => (List.mem_append.1 hy).elim ((numS_ok m p5).1 y) (q4 y)⟩
theorem res_one (d : Nat) (s : List Int) (ks : List (List S32)) (hs : s.length ≤ 30) (hl : ks.length ≤ 1048576) (hc : Sh.cnt s = ((ks.length : Int), true)) (h : ∀ k ∈ ks, RA d k) (hg : ∀ k ∈ ks, ∀ n ∈ k, Gd n) (hj : (jnS s ks).2.2.2.2 = true) :
  ∃ m, res s ks = [m] ∧ m.f0 ≠ 5 ∧ m.f1 = s ∧ itm m = (ks.length : Int) ∧ Gd m ∧ Ev (fun k => tight_form.f k [m]) [m] := by
 unfold res
 rw [if_pos hj]
 unfold jnS at hj ⊢
 cases hb : ks.any jbad with
 | true => rw [hb] at hj; exact Bool.noConfusion hj
 | false =>
  rw [hb] at hj
  rw [if_neg (by simp)] at hj ⊢
  obtain ⟨q1, q2, q3, q4⟩ := join_kids h hg hb
  generalize (ks.map jch).flatten = C at hj q1 q2 q3 ⊢
  generalize (ks.map jal).flatten = A at hj q1 q4 ⊢
  unfold jend at hj ⊢
  by_cases c : C.length = ks.length ∧ 0 < ks.length
  ·rw [if_pos c]
   have g : Gd (⟨3, s, C, []⟩ : S32) := ⟨⟨fun y hy => by simp at hy, q3, by show C.length ≤ 1048576; omega, by show 0 ≤ 1048576; omega⟩, by simp, hs⟩
   refine ⟨⟨3, s, C, []⟩, rfl, by show (3 : Int) ≠ 5; decide, rfl, ?_, g, ?_⟩
   ·rw [itm_val _ g.1]
    show (if (Sh.cnt s).2 = true then (if gdK 3 (Sh.cnt s).1 C [] = true then (Sh.cnt s).1 else -1) else -1) = _
    rw [hc, if_pos rfl, if_pos]
    unfold gdK
    rw [if_pos (.inr (.inr rfl))]
    exact gd_of (by omega) rfl q2 rfl
   ·exact form_char _ (by simp) (by simp) rfl (fun n hn => by rw [List.mem_singleton.1 hn]; exact g)
  ·rw [if_neg c] at hj ⊢
   obtain ⟨w1, w2, w3⟩ := nbS_iff s A hj
   have hcA : Sh.cnt s = ((A.length : Int), true) := Prod.ext w2 w1
   have hlA : A.length ≤ 1048576 := by rw [hc] at w2; simp only at w2; omega
   obtain ⟨n1, n2, n3, n4, n5, n6, n7⟩ := nd_good s A hs hlA q4 hcA w3
   refine ⟨nd s A, rfl, n4, n2, ?_, n5, nd_form s A hs hlA q4 hcA w3⟩
   rw [n6, ← w2, hc]
theorem fm_leaf (n : S32) (g : Gd n) (h0 : 0 ≤ itm n) (h3 : n.f0 ≠ 3) (h5 : n.f0 ≠ 5) : Ev (fun k => tight_form.f k [n]) [nd n.f1 (Xc1 n)] ∧ Sh.cnt n.f1 = (((Xc1 n).length : Int), true) ∧ (Xc1 n).all dr = true := by
 have hg := g.1
 unfold Ok2 at hg
 have hgs := g.2.2
 have hn := numS_leaf n g h0 h3 h5
 exact ⟨form_one n h3 h5 hg.2.1 g.2.1 (by omega) (by omega) (by omega), by rw [hn.1]; exact (leaf n g h0).1, hn.2⟩
theorem nest_node (n : S32) (g : Gd n) (h0 : 0 ≤ itm n) (h5 : n.f0 = 5) : n = ⟨5, n.f1, [], []⟩ := by
 have hl := leaf n g h0
 rw [h5] at hl
 rcases Xdr hl.2 with ⟨c, q⟩ | ⟨c, q⟩ | ⟨c, q⟩
 ·omega
 ·omega
 ·have := gd_len q
  cases n with
  | mk a b c e =>
   simp only at h5 this
   rw [h5, nil_of this.1, nil_of this.2.1]
theorem fm_main : ∀ d, d ≤ 16 → ∀ a, RA d a → (∀ n ∈ a, Gd n) → a.length ≤ 1048577 → sm a ≤ 1048576 → FP d a (fm a) := by
 intro d
 induction d with
 | zero => intro hd a h; exact absurd h id
 | succ d ih =>
  intro hd a h hg hl hs
  suffices hsuf : ∃ b, FP (d + 1) a b by
   obtain ⟨b, hb⟩ := hsuf
   rw [fm_of hb.1]; exact hb
  obtain ⟨n, h0, ⟨h1, rfl⟩ | ⟨h1, ks, k1, k2, rfl⟩⟩ := h
  ·have g := hg n (List.mem_singleton.2 rfl)
   by_cases h3 : n.f0 = 3
   ·have hf := form_char [n] (by simp) (by simp) h3 hg
    exact ⟨[n], hf, ⟨n, h0, .inl ⟨h1, rfl⟩⟩, hg, Nat.le_refl _, Int.le_refl _, hf, rfl⟩
   ·obtain ⟨f1, f2, f3⟩ := fm_leaf n g h0 h3 h1
    have hk := numS_ok n g
    obtain ⟨n1, n2, n3, n4, n5, n6, n7⟩ := nd_good n.f1 (Xc1 n) g.2.2 hk.2 hk.1 f2 f3
    refine ⟨[nd n.f1 (Xc1 n)], f1, ⟨_, by omega, .inl ⟨n4, rfl⟩⟩, fun m hm => by rw [List.mem_singleton.1 hm]; exact n5, by simp, ?_, nd_form _ _ g.2.2 hk.2 hk.1 f2 f3, n2⟩
    have := (leaf n g h0).1
    rw [f2] at this
    have := congrArg Prod.fst this
    simp only at this
    rw [Xcu, Xcu, sm_nil, n6]; omega
  ·have g := hg n (List.mem_cons_self ..)
   have hgk : ∀ k ∈ ks, ∀ m ∈ k, Gd m := fun k hk m hm => hg m (List.mem_cons_of_mem _ (List.mem_flatten.2 ⟨k, hk, hm⟩))
   simp only [List.length_cons] at hl
   have hs' := hs
   rw [Xcu] at hs'
   have hne : ∀ k ∈ ks, 1 ≤ k.length := fun k hk => (k2 k hk).ne.2
   have hcount := len_count hne
   have IH : ∀ k ∈ ks, FP d k (fm k) := fun k hk => ih (by omega) k (k2 k hk) (hgk k hk) (by have := len_mem hk; omega) (by have := sm_mem (RA.kids k2) hk; omega)
   have hK : ∀ k' ∈ ks.map fm, RA d k' ∧ (∀ m ∈ k', Gd m) ∧ Ev (fun k => tight_form.f k k') k' := fun k' hk' => by
    obtain ⟨k, hk, rfl⟩ := List.mem_map.1 hk'
    have := IH k hk
    exact ⟨this.2.1, this.2.2.1, this.2.2.2.2.2.1⟩
   have hfl := flat_map_le (f := fm) fun k hk => ⟨(IH k hk).2.2.2.1, (IH k hk).2.2.2.2.1⟩
   have hml : (ks.map fm).length = ks.length := List.length_map _
   have hhd : ∀ k ∈ ks.map fm, 1 ≤ k.length ∧ Gd (hd0 k) := fun k hk => by
    have := hK k hk
    have hn := this.1.ne.2
    refine ⟨hn, this.2.1 _ ?_⟩
    cases k with
    | nil => simp at hn
    | cons x r => exact List.mem_cons_self ..
   have hform : Ev (fun k => tight_form.f k (n :: ks.flatten)) (res n.f1 (ks.map fm)) :=
    form_nest d (by omega) n ks (ks.map fm) h1 k1 k2 hs hg (by simp only [List.length_cons]; omega) (by omega) hml.symm (by omega) hhd (fun i hi hi' => by rw [List.getElem_map]; exact (IH _ (List.getElem_mem _)).1)
   have hcn : Sh.cnt n.f1 = (((ks.map fm).length : Int), true) := by rw [hml, ← k1]; exact (leaf n g h0).1
   have p2 := Xei (RA.kids k2)
   cases hj : (jnS n.f1 (ks.map fm)).2.2.2.2 with
   | true =>
    obtain ⟨m, m1, m2, m3, m4, m5, m6⟩ := res_one d n.f1 (ks.map fm) g.2.2 (by omega) hcn (fun k hk => (hK k hk).1) (fun k hk => (hK k hk).2.1) hj
    rw [m1] at hform
    refine ⟨[m], hform, ⟨m, by omega, .inl ⟨m2, rfl⟩⟩, fun x hx => by rw [List.mem_singleton.1 hx]; exact m5, by simp, ?_, m6, m3⟩
    rw [Xcu, Xcu, sm_nil]; omega
   | false =>
    have hres : res n.f1 (ks.map fm) = n :: (ks.map fm).flatten := by
     unfold res
     rw [hj, if_neg (by simp), ← nest_node n g h0 h1]
    have hgb : ∀ m ∈ n :: (ks.map fm).flatten, Gd m := fun m hm => by
     rcases List.mem_cons.1 hm with rfl | hm
     ·exact g
     ·obtain ⟨k, q1, q2⟩ := List.mem_flatten.1 hm
      exact (hK k q1).2.1 m q2
    rw [hres] at hform
    refine ⟨n :: (ks.map fm).flatten, hform, ⟨n, h0, .inr ⟨h1, ks.map fm, by omega, fun k hk => (hK k hk).1, rfl⟩⟩, hgb, by simp only [List.length_cons]; omega, by rw [Xcu, Xcu]; omega, ?_, rfl⟩
    have := form_nest d (by omega) n (ks.map fm) (ks.map fm) h1 (by omega) (fun k hk => (hK k hk).1) (by rw [Xcu]; omega) hgb (by simp only [List.length_cons]; omega) (by omega) rfl (by omega) hhd (fun i hi hi' => (hK _ (List.getElem_mem _)).2.2)
    rw [hres] at this
    exact this
theorem few_loop (l : List S32) : ∀ d i, i ≤ l.length → i ≤ 200 → 200 - i = d → ∀ x : Int, 0 ≤ x → x ≤ 600 * (i : Int) →
    ∃ b, Ev (fun k => X6.l0 k l x (i : Int)) b ∧ (b = true → l.length ≤ 100 ∧ ∀ n ∈ l.drop i, Fits n) := by
  intro d
  induction d with
  | zero =>
    intro i h1 h2 h3 x hx0 hx1
    by_cases hi : i < l.length
    · refine ⟨false, Ev.succ ?_, by simp⟩
      simp only [X6.l0, if_pos (show ((i : Int) < (l.length : Int)) by omega), decide_eq_false (show ¬ ((i : Int) < 200) by omega)]
      refine Ev.succ ?_
      simp only [X6.j1, Bool.false_eq_true, if_false, if_neg (show ¬ ((l.length : Int) ≤ 100) by omega)]
      exact Ev.const _
    · by_cases g : (l.length : Int) ≤ 100
      · refine ⟨decide (x ≤ 1000), Ev.succ ?_, fun _ => ⟨by omega, by rw [List.drop_eq_nil_of_le (by omega)]; simp⟩⟩
        simp only [X6.l0, if_neg (show ¬ ((i : Int) < (l.length : Int)) by omega)]
        refine Ev.succ ?_
        simp only [X6.j1, Bool.false_eq_true, if_false, if_pos g]
        exact Ev.const _
      · refine ⟨false, Ev.succ ?_, by simp⟩
        simp only [X6.l0, if_neg (show ¬ ((i : Int) < (l.length : Int)) by omega)]
        refine Ev.succ ?_
        simp only [X6.j1, Bool.false_eq_true, if_false, if_neg g]
        exact Ev.const _
  | succ d ih =>
    intro i h1 h2 h3 x hx0 hx1
    by_cases hi : i < l.length
    · have hrd : Xa l (i : Int) = l[i] := rdT_at l i hi
      have hd : l.drop i = l[i] :: l.drop (i + 1) := (List.drop_eq_getElem_cons hi)
      rw [hd]
      generalize l[i] = n at hrd
      by_cases g1 : (n.f1.length : Int) > 30
      · refine ⟨false, Ev.succ ?_, by simp⟩
        simp only [X6.l0, if_pos (show ((i : Int) < (l.length : Int)) by omega), decide_eq_true (show ((i : Int) < 200) by omega)]
        refine Ev.succ ?_
        simp only [X6.j1, if_true, if_pos (show (0 : Int) ≤ (i : Int) by omega), if_pos (show ((i : Int) < (l.length : Int)) by omega), hrd, if_pos g1]
        exact Ev.const _
      · by_cases g2 : (n.f2.length : Int) > 300
        · refine ⟨false, Ev.succ ?_, by simp⟩
          simp only [X6.l0, if_pos (show ((i : Int) < (l.length : Int)) by omega), decide_eq_true (show ((i : Int) < 200) by omega)]
          refine Ev.succ ?_
          simp only [X6.j1, if_true, if_pos (show (0 : Int) ≤ (i : Int) by omega), if_pos (show ((i : Int) < (l.length : Int)) by omega), hrd, if_neg g1, if_pos g2]
          exact Ev.const _
        · by_cases g3 : (n.f3.length : Int) > 300
          · refine ⟨false, Ev.succ ?_, by simp⟩
            simp only [X6.l0, if_pos (show ((i : Int) < (l.length : Int)) by omega), decide_eq_true (show ((i : Int) < 200) by omega)]
            refine Ev.succ ?_
            simp only [X6.j1, if_true, if_pos (show (0 : Int) ≤ (i : Int) by omega), if_pos (show ((i : Int) < (l.length : Int)) by omega), hrd, if_neg g1, if_neg g2, if_pos g3]
            exact Ev.const _
          · have hw : wrap64 (wrap64 (x + (n.f2.length : Int)) + (n.f3.length : Int)) = x + (n.f2.length : Int) + (n.f3.length : Int) := by
              rw [w64 (n := x + (n.f2.length : Int)) (by omega) (by omega), w64 (by omega) (by omega)]
            have hw2 : wrap64 ((i : Int) + 1) = ((i + 1 : Nat) : Int) := by rw [w64 (by omega) (by omega)]; omega
            obtain ⟨b, hb, hb2⟩ := ih (i + 1) (by omega) (by omega) (by omega) (x + (n.f2.length : Int) + (n.f3.length : Int)) (by omega) (by omega)
            refine ⟨b, Ev.succ ?_, fun e => ⟨(hb2 e).1, fun y hy => ?_⟩⟩
            · simp only [X6.l0, if_pos (show ((i : Int) < (l.length : Int)) by omega), decide_eq_true (show ((i : Int) < 200) by omega)]
              refine Ev.succ ?_
              simp only [X6.j1, if_true, if_pos (show (0 : Int) ≤ (i : Int) by omega), if_pos (show ((i : Int) < (l.length : Int)) by omega), hrd, if_neg g1, if_neg g2, if_neg g3, hw, hw2]
              exact hb
            · rcases List.mem_cons.1 hy with rfl | hy
              · exact ⟨by omega, by omega, by omega⟩
              · exact (hb2 e).2 y hy
    · by_cases g : (l.length : Int) ≤ 100
      · refine ⟨decide (x ≤ 1000), Ev.succ ?_, fun _ => ⟨by omega, by rw [List.drop_eq_nil_of_le (by omega)]; simp⟩⟩
        simp only [X6.l0, if_neg (show ¬ ((i : Int) < (l.length : Int)) by omega)]
        refine Ev.succ ?_
        simp only [X6.j1, Bool.false_eq_true, if_false, if_pos g]
        exact Ev.const _
      · refine ⟨false, Ev.succ ?_, by simp⟩
        simp only [X6.l0, if_neg (show ¬ ((i : Int) < (l.length : Int)) by omega)]
        refine Ev.succ ?_
        simp only [X6.j1, Bool.false_eq_true, if_false, if_neg g]
        exact Ev.const _
theorem few_ev (l : List S32) : ∃ b, Ev (fun k => X6.f k l) b ∧ (b = true → l.length ≤ 100 ∧ ∀ n ∈ l, Fits n) := by
 obtain ⟨b, hb, h2⟩ := few_loop l 200 0 (by omega) (by omega) rfl 0 (by omega) (by omega)
 exact ⟨b, hb, h2⟩
theorem ok_of_wf {a : Int} (h : (Lit.int .i64 a).wf = true) : -9223372036854775808 ≤ a ∧ a ≤ 9223372036854775807 := by
 have e0 : IntKind.i64.min = -9223372036854775808 := by decide
 have e1 : IntKind.i64.max = 9223372036854775807 := by decide
 simp only [Lit.wf, Bool.and_eq_true, decide_eq_true_eq, e0, e1] at h
 exact h
def WfN (y : S32) : Prop := (Lit.int .i64 y.f0).wf = true ∧ (∀ x ∈ y.f1, (Lit.int .i64 x).wf = true) ∧ (∀ x ∈ y.f2, (Lit.int .i64 x).wf = true) ∧ ∀ x ∈ y.f3, (Lit.int .i64 x.f0).wf = true ∧ (Lit.int .i64 x.f1).wf = true
theorem gd_wf {n : S32} (w : WfN n) (f : Fits n) : Gd n := by
 unfold Fits at f
 exact ⟨⟨fun y hy => ok_of_wf (w.2.2.2 y hy).2, fun v hv => ok_of_wf (w.2.2.1 v hv), by omega, by omega⟩, fun y hy => ⟨ok_of_wf (w.2.2.2 y hy).1, ok_of_wf (w.2.2.2 y hy).2⟩, f.1⟩
theorem make_no (a : List S32) (ok : ∀ n ∈ a, Ok n) (hl : a.length ≤ 9223372036854775807) (h : rt a = false) : Ev (fun k => Xcc.f k a) ([], false) := by
 have hr := right_ev a ok hl
 rw [h] at hr
 simp only [Xcc.f]
 refine Ev.bind hr ?_
 simp only [Bool.false_eq_true, if_false]
 exact Ev.const _
theorem make_yes (a : List S32) (hg : ∀ n ∈ a, Gd n) (hl : a.length ≤ 1048577) (h : rt a = true) : Ev (fun k => Xcc.f k a) (fm a, true) ∧
  ∃ D : Nat, D ≤ 16 ∧ RA D a ∧ FP D a (fm a) ∧ Xcv 0 0 [] 0 a = ((a.length : Int), sm a, (D : Int)) ∧ sm a ≤ 1048576 := by
 obtain ⟨D, d1, d2, d3, d4⟩ := rt_RA h
 have hF := fm_main D d1 a d2 hg hl d4
 refine ⟨?_, D, d1, d2, hF, d3, d4⟩
 have hr := right_ev a (fun n hn => (hg n hn).1.1) (by omega)
 rw [h] at hr
 simp only [Xcc.f]
 refine Ev.bind hr ?_
 simp only [if_true]
 exact Ev.bind hF.1 (Ev.const _)
def Fit2 (n : S32) : Prop := n.f1.length ≤ 1100000 ∧ n.f2.length ≤ 1100000 ∧ n.f3.length ≤ 1100000
noncomputable def q {α : Type} (a b : α) : Bool := @decide (a = b) (Classical.propDecidable _)
theorem q_t {α : Type} {a b : α} (h : a = b) : q a b = true := by unfold q; exact @decide_eq_true _ (Classical.propDecidable _) h
theorem q_f {α : Type} {a b : α} (h : a ≠ b) : q a b = false := by unfold q; exact @decide_eq_false _ (Classical.propDecidable _) h
theorem q_nil {α : Type} {a b : List α} {i : Nat} (h : a.length ≤ i) (h2 : b.length ≤ i) : q (a.drop i) (b.drop i) = true := q_t (by rw [List.drop_eq_nil_of_le h, List.drop_eq_nil_of_le h2])
theorem q_eq {α : Type} {a b : List α} {i : Nat} (ha : i < a.length) (hb : i < b.length) (h : a[i] = b[i]) : q (a.drop i) (b.drop i) = q (a.drop (i + 1)) (b.drop (i + 1)) := by
 by_cases g : a.drop (i + 1) = b.drop (i + 1)
 ·rw [q_t g, q_t (by rw [List.drop_eq_getElem_cons ha, List.drop_eq_getElem_cons hb, h, g])]
 ·rw [q_f g, q_f (fun e => g (by rw [List.drop_eq_getElem_cons ha, List.drop_eq_getElem_cons hb] at e; injection e))]
theorem q_ne {α : Type} {a b : List α} {i : Nat} (ha : i < a.length) (hb : i < b.length) (h : a[i] ≠ b[i]) : q (a.drop i) (b.drop i) = false :=
 q_f (fun e => h (by rw [List.drop_eq_getElem_cons ha, List.drop_eq_getElem_cons hb] at e; injection e))
theorem eqi_loop (a b : List Int) (he : a.length = b.length) (hl : a.length ≤ 9223372036854775807) : ∀ d i, i ≤ a.length → a.length - i = d → Ev (fun k => Xx.l0 k a b (a.length : Int) (i : Int)) (q (a.drop i) (b.drop i)) := by
 intro d
 induction d with
 | zero =>
  intro i h1 h2
  rw [q_nil (by omega) (by omega)]
  refine Ev.succ ?_
  simp only [Xx.l0, if_neg (show ¬ ((i : Int) < (a.length : Int)) by omega)]
  exact Ev.const _
 | succ d ih =>
  intro i h1 h2
  have hi : i < a.length := by omega
  have hb : i < b.length := by omega
  have hv := ih (i + 1) (by omega) (by omega)
  refine Ev.succ ?_
  simp only [Xx.l0, if_pos (show ((i : Int) < (a.length : Int)) by omega), if_pos (show ((i : Int) < (b.length : Int)) by omega), if_pos (show (0 : Int) ≤ (i : Int) by omega), ix hi hl, Xdq a i hi, Xdq b i hb]
  by_cases g : a[i] = b[i]
  ·rw [q_eq hi hb g]; simp only [if_pos g]; exact hv
  ·rw [q_ne hi hb g]; simp only [if_neg g]; exact Ev.const _
theorem eqi_ev (a b : List Int) (hl : a.length ≤ 9223372036854775807) : Ev (fun k => Xx.f k a b) (q a b) := by
 by_cases h : (a.length : Int) = (b.length : Int)
 ·simp only [Xx.f, if_pos h]
  have := eqi_loop a b (by omega) hl a.length 0 (by omega) (by omega)
  simp only [List.drop_zero] at this
  exact this
 ·simp only [Xx.f, if_neg h]
  rw [q_f (fun e => h (by rw [e]))]
  exact Ev.const _
theorem dec_ne (x y : S40) : (!(x.f0 == y.f0) || !(x.f1 == y.f1)) = !(q x y) := by
 by_cases h : x = y
 ·rw [q_t h, h]; simp
 ·rw [q_f h]
  obtain ⟨a, b⟩ := x
  obtain ⟨c, d⟩ := y
  by_cases e : a = c
  ·by_cases f : b = d
   ·exact absurd (by rw [e, f]) h
   ·simp only [beq_eq_false_iff_ne.mpr f, Bool.not_false, Bool.or_true]
  ·simp only [beq_eq_false_iff_ne.mpr e, Bool.not_false, Bool.true_or]
theorem eqd_loop (a b : List S40) (he : a.length = b.length) (hl : a.length ≤ 9223372036854775807) : ∀ d i, i ≤ a.length → a.length - i = d → Ev (fun k => Xa9.l0 k a b (a.length : Int) (i : Int)) (q (a.drop i) (b.drop i)) := by
 intro d
 induction d with
 | zero =>
  intro i h1 h2
  rw [q_nil (by omega) (by omega)]
  refine Ev.succ ?_
  simp only [Xa9.l0, if_neg (show ¬ ((i : Int) < (a.length : Int)) by omega)]
  exact Ev.const _
 | succ d ih =>
  intro i h1 h2
  have hi : i < a.length := by omega
  have hb : i < b.length := by omega
  have hv := ih (i + 1) (by omega) (by omega)
  refine Ev.succ ?_
  simp only [Xa9.l0, if_pos (show ((i : Int) < (a.length : Int)) by omega), if_pos (show ((i : Int) < (b.length : Int)) by omega), if_pos (show (0 : Int) ≤ (i : Int) by omega), ix hi hl, Xek a i hi, Xek b i hb, dec_ne]
  by_cases g : a[i] = b[i]
  ·rw [q_eq hi hb g]; simp only [q_t g, Bool.not_true, Bool.false_eq_true, if_false]; exact hv
  ·rw [q_ne hi hb g]; simp only [q_f g, Bool.not_false, if_true]; exact Ev.const _
theorem eqd_ev (a b : List S40) (hl : a.length ≤ 9223372036854775807) : Ev (fun k => Xa9.f k a b) (q a b) := by
 by_cases h : (a.length : Int) = (b.length : Int)
 ·simp only [Xa9.f, if_pos h]
  have := eqd_loop a b (by omega) hl a.length 0 (by omega) (by omega)
  simp only [List.drop_zero] at this
  exact this
 ·simp only [Xa9.f, if_neg h]
  rw [q_f (fun e => h (by rw [e]))]
  exact Ev.const _
theorem node_q (x y : S32) : q x y = (q x.f0 y.f0 && (q x.f1 y.f1 && (q x.f2 y.f2 && q x.f3 y.f3))) := by
 obtain ⟨a, b, c, d⟩ := x
 obtain ⟨a', b', c', d'⟩ := y
 by_cases h0 : a = a'
 ·by_cases h1 : b = b'
  ·by_cases h2 : c = c'
   ·by_cases h3 : d = d'
    ·rw [q_t (by rw [h0, h1, h2, h3])]; simp only [q_t h0, q_t h1, q_t h2, q_t h3]; rfl
    ·rw [q_f (fun e => h3 (by injection e))]; simp only [q_f h3, Bool.and_false]
   ·rw [q_f (fun e => h2 (by injection e))]; simp only [q_f h2, Bool.and_false, Bool.false_and]
  ·rw [q_f (fun e => h1 (by injection e))]; simp only [q_f h1, Bool.and_false, Bool.false_and]
 ·rw [q_f (fun e => h0 (by injection e))]; simp only [q_f h0, Bool.false_and]
theorem same1_ev (x y : S32) (h : Fit2 x) : Ev (fun k => Xbu.f k x.f0 x.f1 x.f2 x.f3 y.f0 y.f1 y.f2 y.f3) (q x y) := by
 obtain ⟨h1, h2, h3⟩ := h
 rw [node_q]
 by_cases e : x.f0 = y.f0
 ·simp only [Xbu.f, if_pos e, q_t e, Bool.true_and]
  refine Ev.bind (eqi_ev x.f1 y.f1 (by omega)) ?_
  cases q x.f1 y.f1 with
  | false => exact Ev.const _
  | true =>
   refine Ev.bind (eqi_ev x.f2 y.f2 (by omega)) ?_
   cases q x.f2 y.f2 with
   | false => exact Ev.const _
   | true => exact Ev.bind (eqd_ev x.f3 y.f3 (by omega)) (Ev.const _)
 ·simp only [Xbu.f, if_neg e, q_f e, Bool.false_and]; exact Ev.const _
theorem eqn_loop (a b : List S32) (he : a.length = b.length) (hl : a.length ≤ 100) (hf : ∀ n ∈ a, Fit2 n) : ∀ d i, i ≤ a.length → a.length - i = d → Ev (fun k => Xa0.l0 k b a (a.length : Int) (i : Int)) (q (a.drop i) (b.drop i)) := by
 intro d
 induction d with
 | zero =>
  intro i h1 h2
  rw [q_nil (by omega) (by omega)]
  refine Ev.succ ?_
  simp only [Xa0.l0, if_neg (show ¬ ((i : Int) < (a.length : Int)) by omega)]
  exact Ev.const _
 | succ d ih =>
  intro i h1 h2
  have hi : i < a.length := by omega
  have hb : i < b.length := by omega
  have hv := ih (i + 1) (by omega) (by omega)
  refine Ev.succ ?_
  simp only [Xa0.l0, if_pos (show ((i : Int) < (a.length : Int)) by omega), if_pos (show ((i : Int) < (b.length : Int)) by omega), if_pos (show (0 : Int) ≤ (i : Int) by omega), ix hi (by omega), rdT_at a i hi, rdT_at b i hb]
  refine Ev.bind (same1_ev a[i] b[i] (hf _ (List.getElem_mem _))) ?_
  by_cases g : a[i] = b[i]
  ·rw [q_eq hi hb g]; simp only [q_t g, if_true]; exact hv
  ·rw [q_ne hi hb g]; simp only [q_f g, Bool.false_eq_true, if_false]; exact Ev.const _
theorem same_q (a b : List S32) (hl : a.length ≤ 100) (hf : ∀ n ∈ a, Fit2 n) : Ev (fun k => Xck.f k a b) (q a b) := by
 simp only [Xck.f]
 refine Ev.bind ?_ (Ev.const _)
 by_cases h : (a.length : Int) = (b.length : Int)
 ·simp only [Xa0.f, if_pos h]
  have := eqn_loop a b (by omega) hl hf a.length 0 (by omega) (by omega)
  simp only [List.drop_zero] at this
  exact this
 ·simp only [Xa0.f, if_neg h]
  rw [q_f (fun e => h (by rw [e]))]
  exact Ev.const _
theorem Gd.fit {n : S32} (h : Gd n) : Fit2 n := by have := h.1; have := h.2.2; unfold Ok2 at *; exact ⟨by omega, by omega, by omega⟩
theorem tright_ev (a : List S32) (hg : ∀ n ∈ a, Gd n) (hl : a.length ≤ 100) (h : rt a = true) : Ev (fun k => Xa6.f k a) (q a (fm a)) := by
 obtain ⟨m, _⟩ := make_yes a hg (by omega) h
 simp only [Xa6.f]
 refine Ev.bind m ?_
 simp only [if_true]
 exact Ev.bind (same_q a (fm a) hl (fun n hn => (hg n hn).fit)) (Ev.const _)
theorem trt (a : List S32) (hg : ∀ n ∈ a, Gd n) (hl : a.length ≤ 100) : Ev (fun k => Xa6.f k a) (rt a && q a (fm a)) := by
 cases h : rt a with
 | false =>
  rw [Bool.false_and]
  simp only [Xa6.f]
  refine Ev.bind (make_no a (fun n hn => (hg n hn).1.1) (by omega) h) ?_
  simp only [Bool.false_eq_true, if_false]
  exact Ev.const _
 | true =>
  rw [Bool.true_and]
  exact tright_ev a hg hl h
theorem trim_some (s : ByteArray) : ∃ t, Xcd.f s (⟨#[45]⟩ : ByteArray) = some t ∧ t.size ≤ s.size := by
 unfold Xcd.f Xb6.f Xbb.f
 have h1 : (((⟨#[45]⟩ : ByteArray).size : Nat) : Int) = 1 := rfl
 rw [h1]
 by_cases g : (s.size : Int) ≥ 1
 ·simp only [if_pos g, if_pos (show (0 : Int) ≤ 1 by decide), if_pos (show (1 : Int) ≤ (s.size : Int) from g), Option.bind_some]
  generalize ((s.extract 0 (1 : Int).toNat).toList == (⟨#[45]⟩ : ByteArray).toList) = b
  cases b with
  | true =>
   simp only [if_true, Option.bind_some]
   exact ⟨_, rfl, by rw [ByteArray.size_extract]; omega⟩
  | false =>
   simp only [Bool.false_eq_true, if_false, Option.bind_some]
   exact ⟨s, rfl, Nat.le_refl _⟩
 ·simp only [if_neg g, Option.bind_some, Bool.false_eq_true, if_false]
  exact ⟨s, rfl, Nat.le_refl _⟩
theorem digits_some (m : Int) (h : In64 m) : ∃ s : ByteArray, Xcg.f m = some s := by
 obtain ⟨t, h1, h2⟩ := trim_some ⟨(Go.Lib.itoa m).toArray⟩
 refine ⟨t, ?_⟩
 unfold Xcg.f Xcr.f
 rw [if_pos (show -9223372036854775808 ≤ m ∧ m ≤ 9223372036854775807 from h), Option.bind_some, h1]
 rfl
theorem cmp_some (a b : Int) : ∃ c, Xal.f a b = some c := by
 unfold Xal.f Xbi.f
 simp only [Option.bind_some, bne_self_eq_false, Bool.false_eq_true, if_false]
 by_cases h : a < b
 ·exact ⟨_, if_pos h⟩
 ·rw [if_neg h]
  by_cases g : a > b
  ·exact ⟨_, if_pos g⟩
  ·exact ⟨_, if_neg g⟩
theorem or_some (a b : Int) : ∃ c, Ev (fun k => Xa2.f k [a, b]) c := by
 have w1 : wrap64 (0 + 1) = 1 := by rw [w64 (by omega) (by omega)]; rfl
 have w2 : wrap64 (1 + 1) = 2 := by rw [w64 (by omega) (by omega)]; rfl
 simp only [Xa2.f, List.length_cons, List.length_nil]
 by_cases h : a = 0
 ·by_cases g : b = 0
  ·refine ⟨0, Ev.succ ?_⟩
   simp only [Xa2.l0, List.length_cons, List.length_nil, if_pos (show (0 : Int) < ((0 + 1 + 1 : Nat) : Int) by decide), if_pos (show (0 : Int) ≤ 0 by decide), show rd [a, b] 0 = a from rfl, if_pos h, w1]
   refine Ev.succ ?_
   simp only [Xa2.l0, List.length_cons, List.length_nil, if_pos (show (1 : Int) < ((0 + 1 + 1 : Nat) : Int) by decide), if_pos (show (0 : Int) ≤ 1 by decide), show rd [a, b] 1 = b from rfl, if_pos g, w2]
   refine Ev.succ ?_
   simp only [Xa2.l0, if_neg (show ¬ (2 : Int) < ((0 + 1 + 1 : Nat) : Int) by decide)]
   exact Ev.const _
  ·refine ⟨b, Ev.succ ?_⟩
   simp only [Xa2.l0, List.length_cons, List.length_nil, if_pos (show (0 : Int) < ((0 + 1 + 1 : Nat) : Int) by decide), if_pos (show (0 : Int) ≤ 0 by decide), show rd [a, b] 0 = a from rfl, if_pos h, w1]
   refine Ev.succ ?_
   simp only [Xa2.l0, List.length_cons, List.length_nil, if_pos (show (1 : Int) < ((0 + 1 + 1 : Nat) : Int) by decide), if_pos (show (0 : Int) ≤ 1 by decide), show rd [a, b] 1 = b from rfl, if_neg g]
   exact Ev.const _
 ·refine ⟨a, Ev.succ ?_⟩
  simp only [Xa2.l0, List.length_cons, List.length_nil, if_pos (show (0 : Int) < ((0 + 1 + 1 : Nat) : Int) by decide), if_pos (show (0 : Int) ≤ 0 by decide), show rd [a, b] 0 = a from rfl, if_neg h]
  exact Ev.const _
theorem above_some (m e a b : Int) (h : In64 m) (g : In64 a) : ∃ c, Ev (fun k => decimal_above.f k m e a b) c := by
 obtain ⟨s, s1⟩ := digits_some m h
 obtain ⟨t, t1⟩ := digits_some a g
 obtain ⟨c, hc⟩ := cmp_some (wrap64 ((s.size : Int) + e)) (wrap64 ((t.size : Int) + b))
 obtain ⟨d, hd⟩ : ∃ d, Xcq.f s t = some d := ⟨_, rfl⟩
 obtain ⟨r, hr⟩ := or_some c d
 refine ⟨r, ?_⟩
 simp only [decimal_above.f, s1, t1, Option.bind_some, hc, hd]
 exact Ev.bind hr (Ev.const _)
theorem small8 : Ev (fun k => Xae.f k 1 (-8)) true :=
 ⟨60, fun k hk => Xed (g := fun k => Xae.f k 1 (-8)) (fun k => Xae.mono _ _ k) hk (by decide +kernel)⟩
theorem cmp0_some (m e : Int) (h : In64 m) : ∃ c, Ev (fun k => X0.j0 k m e 1 (-8)) c := by
 obtain ⟨x, hx⟩ := cmp_some m 0
 obtain ⟨y, hy⟩ := cmp_some 1 0
 obtain ⟨z, hz⟩ := cmp_some x y
 obtain ⟨u, hu⟩ := above_some m e 1 (-8) h (by unfold In64; omega)
 by_cases c : x = y
 ·by_cases d : x = 0
  ·refine ⟨0, Ev.succ ?_⟩
   simp only [X0.j0]
   refine Ev.bind small8 ?_
   simp only [if_true]
   refine Ev.succ ?_
   simp only [X0.j1, hx, hy, Option.bind_some, if_pos c, if_pos d]
   exact Ev.const _
  ·refine ⟨wrap64 (x * u), Ev.succ ?_⟩
   simp only [X0.j0]
   refine Ev.bind small8 ?_
   simp only [if_true]
   refine Ev.succ ?_
   simp only [X0.j1, hx, hy, Option.bind_some, if_pos c, if_neg d]
   exact Ev.bind hu (Ev.const _)
 ·refine ⟨z, Ev.succ ?_⟩
  simp only [X0.j0]
  refine Ev.bind small8 ?_
  simp only [if_true]
  refine Ev.succ ?_
  simp only [X0.j1, hx, hy, Option.bind_some, if_neg c, hz]
  exact Ev.const _
theorem compare_some (y : S40) (h : OkE y) : ∃ c, Ev (fun k => X0.f k y.f0 y.f1 1 (-8)) c := by
 have hr := dr_ev y h.d
 cases e : dr y with
 | true =>
  rw [e] at hr
  obtain ⟨c, hc⟩ := cmp0_some y.f0 y.f1 h.1
  refine ⟨c, ?_⟩
  simp only [X0.f]
  refine Ev.bind hr ?_
  simp only [if_true]
  exact hc
 | false =>
  rw [e] at hr
  obtain ⟨c, hc⟩ := cmp0_some 0 0 (by unfold In64; omega)
  refine ⟨c, ?_⟩
  simp only [X0.f]
  refine Ev.bind hr ?_
  simp only [Bool.false_eq_true, if_false]
  exact hc
theorem alone_some (a : List S32) (hg : ∀ n ∈ a, Gd n) (h : rt a = true) : 1 ≤ a.length ∧ ∃ (y : S40) (b : Bool), OkE y ∧ Ev (fun k => Xbf.f k a) (y.f0, y.f1, b) := by
 obtain ⟨D, d1, d2, _⟩ := rt_RA h
 have hp := d2.ne.2
 refine ⟨hp, ?_⟩
 have h0 : OkE (⟨0, 0⟩ : S40) := ⟨by show In64 0; unfold In64; omega, by show In64 0; unfold In64; omega⟩
 match a, hp, hg, d2 with
 | n :: r, hp, hg, d2 =>
  have gn := hg n (by simp)
  have i0 := d2.node n (by simp)
  obtain ⟨l1, l2⟩ := leaf n gn i0
  have r0 : Xa (n :: r) 0 = n := rfl
  have lp : (0 : Int) < ((n :: r).length : Int) := by simp only [List.length_cons]; omega
  simp only [Xbf.f, if_pos lp, r0]
  by_cases c1 : (n.f1.length : Int) > 0
  ·refine ⟨⟨0, 0⟩, false, h0, ?_⟩
   simp only [if_pos c1]
   exact Ev.const _
  ·simp only [if_neg c1]
   have e1 : n.f1 = [] := List.eq_nil_of_length_eq_zero (by omega)
   have ei : itm n = 1 := by
    rw [e1, cnt_nil] at l1
    exact ((Prod.mk.inj l1).1).symm
   rw [ei] at l2
   by_cases c4 : n.f0 = 4
   ·simp only [if_pos c4]
    rcases Xdr l2 with ⟨k, _⟩ | ⟨_, g⟩ | ⟨k, _⟩
    ·omega
    ·obtain ⟨_, g2, _, _⟩ := gd_len g
     have hl : 0 < n.f3.length := by omega
     refine ⟨Xv n.f3 0, true, ?_, ?_⟩
     ·have := Xek n.f3 0 hl
      rw [show ((0 : Nat) : Int) = 0 from rfl] at this
      rw [this]
      exact gn.2.1 _ (List.getElem_mem hl)
     ·simp only [if_pos (show (0 : Int) < (n.f3.length : Int) by omega)]
      exact Ev.const _
    ·omega
   ·simp only [if_neg c4]
    have ints : n.f0 = 1 ∨ n.f0 = 2 → ∃ v, In64 v ∧ (0 : Int) < (n.f2.length : Int) ∧ rd n.f2 0 = v := fun k => by
     rcases Xdr l2 with ⟨_, g⟩ | ⟨k2, _⟩ | ⟨k2, _⟩
     ·obtain ⟨g1, _, _, _⟩ := gd_len g
      have hl : 0 < n.f2.length := by omega
      refine ⟨n.f2[0], gn.1.2.1 _ (List.getElem_mem hl), by omega, ?_⟩
      have := Xdq n.f2 0 hl
      rw [show ((0 : Nat) : Int) = 0 from rfl] at this
      exact this
     ·omega
     ·omega
    by_cases c5 : n.f0 = 1
    ·obtain ⟨v, v1, v2, v3⟩ := ints (.inl c5)
     have hv := Xd4 v v1
     refine ⟨ofD v, true, hv.2.ok v1, ?_⟩
     simp only [if_pos c5, if_pos v2, v3]
     exact Ev.bind hv.1 (Ev.const _)
    ·simp only [if_neg c5]
     by_cases c6 : n.f0 = 2
     ·obtain ⟨v, v1, v2, v3⟩ := ints (.inr c6)
      have hv := Xd4 v v1
      refine ⟨ofD v, true, hv.2.ok v1, ?_⟩
      simp only [if_pos c6, if_pos v2, v3]
      exact Ev.bind hv.1 (Ev.const _)
     ·refine ⟨⟨0, 0⟩, false, h0, ?_⟩
      simp only [if_neg c6]
      exact Ev.const _
theorem between_some (a : List S32) (hg : ∀ n ∈ a, Gd n) (h : rt a = true) (x z : Int) : ∃ v, Ev (fun k => Xax.f k a x z) v := by
 obtain ⟨_, y, b, hy, he⟩ := alone_some a hg h
 have hw := (wh_ev y hy).1
 cases b with
 | false =>
  refine ⟨false, ?_⟩
  simp only [Xax.f]
  refine Ev.bind he (Ev.bind hw ?_)
  simp only [Bool.false_eq_true, if_false]
  exact Ev.const _
 | true =>
  cases c : (wh y).2 with
  | false =>
   refine ⟨false, ?_⟩
   simp only [Xax.f]
   refine Ev.bind he (Ev.bind hw ?_)
   simp only [if_true, c, Bool.false_eq_true, if_false]
   exact Ev.const _
  | true =>
   by_cases d : (wh y).1 ≥ x
   ·refine ⟨decide ((wh y).1 ≤ z), ?_⟩
    simp only [Xax.f]
    refine Ev.bind he (Ev.bind hw ?_)
    simp only [if_true, c, if_pos d]
    exact Ev.const _
   ·refine ⟨false, ?_⟩
    simp only [Xax.f]
    refine Ev.bind he (Ev.bind hw ?_)
    simp only [if_true, c, if_neg d]
    exact Ev.const _
def six (l : List UInt8) : Bool := l == [226, 142, 149, 67, 84] || l == [226, 142, 149, 73, 79] || l == [226, 142, 149, 76, 88] || l == [226, 142, 149, 80, 80] || l == [226, 142, 149, 80, 87] || l == [226, 142, 149, 82, 76]
theorem sysR (b : ByteArray) (a : List S32) (hg : ∀ n ∈ a, Gd n) (hl : a.length ≤ 100) : ∃ v, Ev (fun k => X1.f k b a) v ∧ (v = true → six b.toList = true ∧ (rt a && q a (fm a)) = true) := by
 have ht := trt a hg hl
 cases c : rt a && q a (fm a) with
 | false =>
  rw [c] at ht
  refine ⟨false, ?_, by simp⟩
  simp only [X1.f]
  refine Ev.bind ht ?_
  simp only [Bool.false_eq_true, if_false]
  exact Ev.const _
 | true =>
  rw [c] at ht
  have hr : rt a = true := by
   cases h : rt a with
   | true => rfl
   | false => rw [h, Bool.false_and] at c; exact absurd c (by decide)
  obtain ⟨hp, y, u, hy, he⟩ := alone_some a hg hr
  have key : ∀ {g : Nat → Option Bool}, (∃ v, Ev g v) → six b.toList = true → ∃ v, Ev g v ∧ (v = true → six b.toList = true) := fun ⟨v, h⟩ s => ⟨v, h, fun _ => s⟩
  have out : ∀ {g g' : Nat → Option Bool}, (∀ v, Ev g v → Ev g' v) → (∃ v, Ev g v ∧ (v = true → six b.toList = true)) → ∃ v, Ev g' v ∧ (v = true → six b.toList = true ∧ true = true) := fun h ⟨v, e, f⟩ => ⟨v, h v e, fun g => ⟨f g, rfl⟩⟩
  refine out (g := fun k => if b.toList = ([226, 142, 149, 67, 84] : List UInt8) then _ else _) (fun v h => by simp only [X1.f]; exact Ev.bind ht (by simp only [if_true]; exact h)) ?_
  by_cases c1 : b.toList = ([226, 142, 149, 67, 84] : List UInt8)
  ·simp only [if_pos c1]
   refine key ?_ (by rw [c1]; rfl)
   cases u with
   | false =>
    refine ⟨false, Ev.bind he ?_⟩
    simp only [Bool.false_eq_true, if_false]
    exact Ev.const _
   | true =>
    by_cases g : y.f0 ≥ 0
    ·obtain ⟨z, hz⟩ := compare_some y hy
     refine ⟨decide (z ≤ 0), Ev.bind he ?_⟩
     simp only [if_true, if_pos g]
     exact Ev.bind hz (Ev.const _)
    ·refine ⟨false, Ev.bind he ?_⟩
     simp only [if_true, if_neg g]
     exact Ev.const _
  ·simp only [if_neg c1]
   have bt : ∀ x z : Int, ∃ v, Ev (fun k => (Xax.f k a x z).bind fun t => some t) v := fun x z => by
    obtain ⟨v, hv⟩ := between_some a hg hr x z
    exact ⟨v, Ev.bind hv (Ev.const _)⟩
   by_cases c2 : b.toList = ([226, 142, 149, 73, 79] : List UInt8)
   ·simp only [if_pos c2]; exact key (bt _ _) (by rw [c2]; rfl)
   ·simp only [if_neg c2]
    by_cases c3 : b.toList = ([226, 142, 149, 76, 88] : List UInt8)
    ·simp only [if_pos c3, if_pos (show (0 : Int) < (a.length : Int) by omega)]
     refine key ?_ (by rw [c3]; rfl)
     by_cases g : (Xa a 0).f0 = 3
     ·simp only [if_pos g]; exact ⟨_, Ev.const _⟩
     ·simp only [if_neg g]; exact ⟨_, Ev.const _⟩
    ·simp only [if_neg c3]
     by_cases c4 : b.toList = ([226, 142, 149, 80, 80] : List UInt8)
     ·simp only [if_pos c4]; exact key (bt _ _) (by rw [c4]; rfl)
     ·simp only [if_neg c4]
      by_cases c5 : b.toList = ([226, 142, 149, 80, 87] : List UInt8)
      ·simp only [if_pos c5]; exact key (bt _ _) (by rw [c5]; rfl)
      ·simp only [if_neg c5]
       by_cases c6 : b.toList = ([226, 142, 149, 82, 76] : List UInt8)
       ·simp only [if_pos c6]; exact key (bt _ _) (by rw [c6]; rfl)
       ·simp only [if_neg c6]; exact ⟨false, Ev.const _, by simp⟩
theorem six_cases {l : List UInt8} (h : six l = true) : l = [226, 142, 149, 67, 84] ∨ l = [226, 142, 149, 73, 79] ∨ l = [226, 142, 149, 76, 88] ∨ l = [226, 142, 149, 80, 80] ∨ l = [226, 142, 149, 80, 87] ∨ l = [226, 142, 149, 82, 76] := by
 simp only [six, Bool.or_eq_true, beq_iff_eq] at h
 rcases h with ((((h | h) | h) | h) | h) | h <;> simp [h]
theorem six_not {l : List UInt8} (h : six l = false) : l ≠ [226, 142, 149, 67, 84] ∧ l ≠ [226, 142, 149, 73, 79] ∧ l ≠ [226, 142, 149, 76, 88] ∧ l ≠ [226, 142, 149, 80, 80] ∧ l ≠ [226, 142, 149, 80, 87] ∧ l ≠ [226, 142, 149, 82, 76] := by
 simp only [six, Bool.or_eq_false_iff, beq_eq_false_iff_ne] at h
 exact ⟨h.1.1.1.1.1, h.1.1.1.1.2, h.1.1.1.2, h.1.1.2, h.1.2, h.2⟩
theorem Xd9 {b : ByteArray} {l : List UInt8} (h : b.toList = l) : b = ⟨l.toArray⟩ := by
 rw [ByteArray.toList_eq] at h
 obtain ⟨⟨c⟩⟩ := b
 rw [← h]
theorem Xec (b : ByteArray) (d : List S32) (h1 : Xaw.f 200 b = some (d, true)) (h2 : X1.f 200 b d = some true) : ∃ d, Ev (fun k => Xaw.f k b) (d, true) ∧ Ev (fun k => X1.f k b d) true :=
 ⟨d, ⟨200, fun k hk => Xed (g := fun k => Xaw.f k b) (fun k => Xaw.mono _ k) hk h1⟩, ⟨200, fun k hk => Xed (g := fun k => X1.f k b d) (fun k => X1.mono _ _ k) hk h2⟩⟩
theorem def_six (b : ByteArray) (h : six b.toList = true) : ∃ d, Ev (fun k => Xaw.f k b) (d, true) ∧ Ev (fun k => X1.f k b d) true := by
 rcases six_cases h with e | e | e | e | e | e
 ·obtain rfl : b = ⟨#[226, 142, 149, 67, 84]⟩ := Xd9 e
  exact Xec _ [⟨4, [], [], [⟨1, -13⟩]⟩] (by kernel_rfl) (by kernel_rfl)
 ·obtain rfl : b = ⟨#[226, 142, 149, 73, 79]⟩ := Xd9 e
  exact Xec _ [⟨1, [], [1], []⟩] (by kernel_rfl) (by kernel_rfl)
 ·obtain rfl : b = ⟨#[226, 142, 149, 76, 88]⟩ := Xd9 e
  exact Xec _ [⟨3, [0], [], []⟩] (by kernel_rfl) (by kernel_rfl)
 ·obtain rfl : b = ⟨#[226, 142, 149, 80, 80]⟩ := Xd9 e
  exact Xec _ [⟨2, [], [10], []⟩] (by kernel_rfl) (by kernel_rfl)
 ·obtain rfl : b = ⟨#[226, 142, 149, 80, 87]⟩ := Xd9 e
  exact Xec _ [⟨2, [], [80], []⟩] (by kernel_rfl) (by kernel_rfl)
 ·obtain rfl : b = ⟨#[226, 142, 149, 82, 76]⟩ := Xd9 e
  exact Xec _ [⟨2, [], [16807], []⟩] (by kernel_rfl) (by kernel_rfl)
theorem def_not (b : ByteArray) (h : six b.toList = false) : Ev (fun k => Xaw.f k b) ([], false) := by
 obtain ⟨h1, h2, h3, h4, h5, h6⟩ := six_not h
 simp only [Xaw.f, if_neg h1, if_neg h2, if_neg h3, if_neg h4, if_neg h5, if_neg h6]
 exact Ev.const _
theorem ext_take (b : ByteArray) (n : Nat) : (b.extract 0 n).toList = b.toList.take n := by
 rw [ByteArray.toList_eq, ByteArray.toList_eq]
 obtain ⟨⟨l⟩⟩ := b
 rw [ByteArray.extract_mk]
 show (l.drop 0).take (n - 0) = l.take n
 simp
theorem ext_drop (b : ByteArray) (n : Nat) : (b.extract n b.size).toList = b.toList.drop n := by
 rw [ByteArray.toList_eq, ByteArray.toList_eq]
 obtain ⟨⟨l⟩⟩ := b
 rw [ByteArray.extract_mk]
 show (l.drop n).take (l.length - n) = l.drop n
 exact List.take_of_length_le (by simp)
theorem name_six (b : ByteArray) : Xcy.f b = some (six b.toList) := by
 have hs : b.size = b.toList.length := by rw [ByteArray.toList_eq]; rfl
 have p3 : (((⟨#[226, 142, 149]⟩ : ByteArray).size : Nat) : Int) = 3 := rfl
 unfold Xcy.f Xbg.f Xb8.f Xbb.f
 rw [p3, show (3 : Int).toNat = 3 from rfl, ext_take]
 have hp : (⟨#[226, 142, 149]⟩ : ByteArray).toList = [226, 142, 149] := by rw [ByteArray.toList_eq]
 rw [hp]
 by_cases g : (b.size : Int) ≥ 3
 ·simp only [if_pos g, if_pos (show (0 : Int) ≤ 3 by decide), if_pos (show (3 : Int) ≤ (b.size : Int) from g), Option.bind_some]
  have e : b.toList = b.toList.take 3 ++ b.toList.drop 3 := (List.take_append_drop 3 _).symm
  have hl : (b.toList.take 3).length = 3 := by rw [List.length_take]; omega
  by_cases c : b.toList.take 3 = [226, 142, 149]
  ·have eb : (b.toList.take 3 == ([226, 142, 149] : List UInt8)) = true := beq_iff_eq.mpr c
   simp only [eb, if_true, Option.bind_some, ext_drop]
   rw [c] at e
   generalize b.toList.drop 3 = r at *
   rw [e]
   have six_r : six ([226, 142, 149] ++ r) = (r == [67, 84] || r == [73, 79] || r == [76, 88] || r == [80, 80] || r == [80, 87] || r == [82, 76]) := rfl
   rw [six_r]
   by_cases c1 : r = [67, 84]
   ·subst c1; rfl
   by_cases c2 : r = [73, 79]
   ·subst c2; rfl
   by_cases c3 : r = [76, 88]
   ·subst c3; rfl
   by_cases c4 : r = [80, 80]
   ·subst c4; rfl
   by_cases c5 : r = [80, 87]
   ·subst c5; rfl
   by_cases c6 : r = [82, 76]
   ·subst c6; rfl
   simp only [if_neg c1, if_neg c2, if_neg c3, if_neg c4, if_neg c5, if_neg c6, beq_eq_false_iff_ne.mpr c1, beq_eq_false_iff_ne.mpr c2, beq_eq_false_iff_ne.mpr c3, beq_eq_false_iff_ne.mpr c4, beq_eq_false_iff_ne.mpr c5, beq_eq_false_iff_ne.mpr c6, Bool.or_false]
  ·have eb : (b.toList.take 3 == ([226, 142, 149] : List UInt8)) = false := beq_eq_false_iff_ne.mpr c
   simp only [eb, Bool.false_eq_true, if_false, Option.bind_some]
   cases s : six b.toList with
   | false => rfl
   | true =>
    exfalso
    rcases six_cases s with k | k | k | k | k | k <;> (rw [k] at c; exact c rfl)
 ·simp only [if_neg g, Option.bind_some, Bool.false_eq_true, if_false]
  cases s : six b.toList with
  | false => rfl
  | true =>
   exfalso
   rcases six_cases s with k | k | k | k | k | k <;> (rw [hs, k] at g; exact g (by decide))
theorem small_ev : Ev (fun k => Xbl.f k) true :=
 ⟨200, fun k hk => Xed (g := fun k => Xbl.f k) (fun k => Xbl.mono k) hk (by decide +kernel)⟩
def nm : List ByteArray := [(⟨#[226, 142, 149, 67, 84]⟩ : ByteArray), (⟨#[226, 142, 149, 73, 79]⟩ : ByteArray), (⟨#[226, 142, 149, 76, 88]⟩ : ByteArray), (⟨#[226, 142, 149, 80, 80]⟩ : ByteArray), (⟨#[226, 142, 149, 80, 87]⟩ : ByteArray), (⟨#[226, 142, 149, 82, 76]⟩ : ByteArray)]
theorem nm_is : Xcm.f = some nm := rfl
theorem nm_any (b : ByteArray) : nm.any (fun n => n.toList == b.toList) = six b.toList := by
 have cm : ∀ x y : List UInt8, (x == y) = (y == x) := fun x y => by
  by_cases h : x = y
  ·rw [h]
  ·rw [beq_eq_false_iff_ne.mpr h, beq_eq_false_iff_ne.mpr (fun e => h e.symm)]
 simp only [nm, List.any_cons, List.any_nil, Bool.or_false, ByteArray.toList_eq]
 simp only [cm _ b.data.toList, six, Bool.or_assoc]
theorem first_tail (b : ByteArray) (a : List S32) (hg : ∀ n ∈ a, Gd n) (hl : a.length ≤ 100) : Ev (fun k => Xp.j2 k b a true (six b.toList) false) true := by
 obtain ⟨v, hv, hc⟩ := sysR b a hg hl
 refine Ev.succ ?_
 simp only [Xp.j2, Bool.false_eq_true, if_false, if_true]
 refine Ev.bind hv ?_
 cases v with
 | false => simp only [Bool.false_eq_true, if_false]; exact Ev.const _
 | true =>
  obtain ⟨h1, h2⟩ := hc rfl
  have ht := trt a hg hl
  rw [h2] at ht
  simp only [h1, if_true]
  exact Ev.bind ht (Ev.const _)
theorem first_loop (b : ByteArray) (a d : List S32) (hg : ∀ n ∈ a, Gd n) (hl : a.length ≤ 100) (hd : six b.toList = true → Ev (fun k => X1.f k b d) true) : ∀ m i (had : Bool), i ≤ nm.length → nm.length - i = m → (had || (nm.drop i).any (fun n => n.toList == b.toList)) = six b.toList →
  Ev (fun k => Xp.l0 k b a true d (six b.toList) (six b.toList) nm had (i : Int)) true := by
 intro m
 induction m with
 | zero =>
  intro i had h1 h2 h3
  rw [List.drop_eq_nil_of_le (by omega), List.any_nil, Bool.or_false] at h3
  have ht := first_tail b a hg hl
  refine Ev.succ ?_
  simp only [Xp.l0, if_neg (show ¬ ((i : Int) < (nm.length : Int)) by omega), h3, bne_self_eq_false, Bool.false_eq_true, if_false]
  cases c : six b.toList with
  | false =>
   rw [c] at ht
   simp only [Bool.false_eq_true, if_false]
   exact ht
  | true =>
   rw [c] at ht
   simp only [if_true]
   refine Ev.bind (hd c) ?_
   rw [Bool.not_true]
   exact ht
 | succ m ih =>
  intro i had h1 h2 h3
  have hi : i < nm.length := by omega
  have hn : nm.length = 6 := rfl
  rw [List.drop_eq_getElem_cons hi, List.any_cons, ← Bool.or_assoc] at h3
  refine Ev.succ ?_
  simp only [Xp.l0, if_pos (show ((i : Int) < (nm.length : Int)) by omega), if_pos (show (0 : Int) ≤ (i : Int) by omega), ix hi (show nm.length ≤ 9223372036854775807 by omega)]
  have e : rdOf ByteArray.empty nm (i : Int) = nm[i] := by
   unfold rdOf
   rw [List.getD_eq_getElem?_getD, Int.toNat_natCast, List.getElem?_eq_getElem hi]; rfl
  rw [e]
  cases had with
  | true =>
   simp only [if_true]
   rw [Bool.true_or] at h3
   exact ih (i + 1) true (by omega) (by omega) h3
  | false =>
   simp only [Bool.false_eq_true, if_false]
   rw [Bool.false_or] at h3
   exact ih (i + 1) _ (by omega) (by omega) h3
theorem SystemFirst (b : ByteArray) (l : List S32) (w : ∀ n ∈ l, WfN n) : ∃ k, Xp.f k b l = some true := by
 obtain ⟨t, e, f⟩ := few_ev l
 have main : Ev (fun k => Xp.f k b l) true := by
  simp only [Xp.f]
  refine Ev.bind small_ev (Ev.bind e ?_)
  cases t with
  | false =>
   simp only [Bool.false_eq_true, if_false]
   refine Ev.succ ?_
   simp only [Xp.j0, if_true]
   exact Ev.const _
  | true =>
   obtain ⟨hl, hf⟩ := f rfl
   have hg : ∀ n ∈ l, Gd n := fun n hn => gd_wf (w n hn) (hf n hn)
   simp only [if_true]
   refine Ev.succ ?_
   simp only [Xp.j0]
   by_cases g : (b.size : Int) > 50
   ·simp only [decide_eq_true g, if_true]; exact Ev.const _
   ·simp only [decide_eq_false g, Bool.false_eq_true, if_false, name_six, nm_is, Option.bind_some]
    cases c : six b.toList with
    | true =>
     obtain ⟨d, d1, d2⟩ := def_six b c
     refine Ev.bind d1 ?_
     have := first_loop b l d hg hl (fun _ => d2) 6 0 false (by decide) rfl (by rw [Bool.false_or, List.drop_zero]; exact nm_any b)
     rw [c] at this
     exact this
    | false =>
     refine Ev.bind (def_not b c) ?_
     have := first_loop b l [] hg hl (fun h => by rw [c] at h; exact absurd h (by decide)) 6 0 false (by decide) rfl (by rw [Bool.false_or, List.drop_zero]; exact nm_any b)
     rw [c] at this
     exact this
 exact main.get
end Go.Proofs.YtfjhiiaahbjaiaaDoor.Pure
