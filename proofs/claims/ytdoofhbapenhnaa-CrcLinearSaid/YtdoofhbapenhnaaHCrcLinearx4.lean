-- Written by the session's program hy.py.
import Derived.Test.YtdoofhbapenhnaaHCrcLinearx0
import Derived.Test.YtdoofhbapenhnaaHCrcLinearx1
import Derived.Test.YtdoofhbapenhnaaHCrcLinearx3
namespace Go.Proofs.Ytdoofhbapenhnaa.HCrcLinear
open Go.RowKit Go.Proofs.YtdoofhbapenhnaaW.PrintWords Go.Proofs.YtdoofhbapenhnaaW.PrintLast Go.Proofs.YtdoofhbapenhnaaW.PrintMore
attribute [local go_sem] max2_int min2_int max_two min_two max_three min_three max_four min_four   -- for this text's walks alone
set_option linter.unusedVariables false
set_option linter.unusedSimpArgs false

/-! ### decklelaw02_CrcLinear: function 6 -/
theorem V_okb {α : Type} {d : Kd α} {e base : Nat} {W : World} {ok : Nat → Prop} {ad : Addr} {n c : Nat} {xs : List α} (h : Kd.V d e W base ok (.slice (some ad) n c) xs) (hp : 0 < xs.length) (hs : 0 < d.sz) : ok ad.block := by
  obtain ⟨hn, hc, hF⟩ := Kd.V_at h
  obtain ⟨ad', c', he, _, _, _, h2⟩ := Kd.F_get hF (xs[0]'hp) 0 (by omega) (by omega)
  injection he with he
  subst he
  exact h2 hs
theorem V_ltb {α : Type} {d : Kd α} {e base : Nat} {W : World} {ok : Nat → Prop} {ad : Addr} {n c : Nat} {xs : List α} (h : Kd.V d e W base ok (.slice (some ad) n c) xs) (hp : 0 < xs.length) (hs : 0 < d.sz) : ad.block < W.heap.size := by
  obtain ⟨hn, hc, hF⟩ := Kd.V_at h
  obtain ⟨ad', c', he, hl, _, h1, _⟩ := Kd.F_get hF (xs[0]'hp) 0 (by omega) (by omega)
  injection he with he
  subst he
  have h4 := World.block_lt_of_cell? W _ (h1 0 _ (List.getElem?_eq_getElem (by omega)))
  rwa [add_block] at h4
mutual
def decklelaw02_CrcLinear.j0 : Nat → Int → List Int → List Int → List Int → Bool → Bool → Option (Bool)
  | 0, _, _, _, _, _, _ => none
  | k + 1, x0, x1, x2, x3, x9, x30 => if x30 = true then (some x9) else ((crc_Table.f x0).bind fun t195 => (decklelaw02_CrcLinear.l0 k x1 x2 x3 x9 ([] : List Int) 0 t195))
def decklelaw02_CrcLinear.l0 : Nat → List Int → List Int → List Int → Bool → List Int → Int → (List Int) → Option (Bool)
  | 0, _, _, _, _, _, _, _ => none
  | k + 1, x1, x2, x3, x9, x11, x12, x197000 => if x12 < (x1.length : Int) then (if 0 ≤ x12 then (if x12 < (x2.length : Int) then (if x12 < (x3.length : Int) then (if x11.length < 140737488355328 then (decklelaw02_CrcLinear.l0 k x1 x2 x3 x9 (x11 ++ [Go.bits .xor .u8 (Go.bits .xor .u8 (rd x1 x12) (rd x2 x12)) (rd x3 x12)]) (wrap64 (x12 + 1)) x197000) else (none)) else (none)) else (none)) else (none)) else (if x9 = true then ((crc_Sum.f k x197000 (([x11] : List (List Int)))).bind fun t206 => ((crc_Sum.f k x197000 (([x1] : List (List Int)))).bind fun t210 => ((crc_Sum.f k x197000 (([x2] : List (List Int)))).bind fun t214 => ((crc_Sum.f k x197000 (([x3] : List (List Int)))).bind fun t218 => (some (t206 == (Go.bits .xor .u32 (Go.bits .xor .u32 t210 t214) t218))))))) else (none))
end
def decklelaw02_CrcLinear.f (k : Nat) (a0 : Int) (l1 : List Int) (l2 : List Int) (l3 : List Int) : Option (Bool) := (decklelaw02_small.f k).bind fun t194 => (if (l1.length : Int) > 300 then (decklelaw02_CrcLinear.j0 k a0 l1 l2 l3 t194 true) else (if (l2.length : Int) = (l1.length : Int) then (decklelaw02_CrcLinear.j0 k a0 l1 l2 l3 t194 ((l3.length : Int) != (l1.length : Int))) else (decklelaw02_CrcLinear.j0 k a0 l1 l2 l3 t194 true)))
theorem decklelaw02_CrcLinear.mono_l : ∀ k, (∀ y0 y1 y2 y3 y4 y5, LeO (decklelaw02_CrcLinear.j0 k y0 y1 y2 y3 y4 y5) (decklelaw02_CrcLinear.j0 (k + 1) y0 y1 y2 y3 y4 y5)) ∧ (∀ y0 y1 y2 y3 y4 y5 y6, LeO (decklelaw02_CrcLinear.l0 k y0 y1 y2 y3 y4 y5 y6) (decklelaw02_CrcLinear.l0 (k + 1) y0 y1 y2 y3 y4 y5 y6))
  | 0 => ⟨fun _ _ _ _ _ _ r h => by simp [decklelaw02_CrcLinear.j0] at h, fun _ _ _ _ _ _ _ r h => by simp [decklelaw02_CrcLinear.l0] at h⟩
  | k + 1 => by
    obtain ⟨ih0, ih1⟩ := decklelaw02_CrcLinear.mono_l k
    refine ⟨?_, ?_⟩
    · intro y0 y1 y2 y3 y4 y5
      unfold decklelaw02_CrcLinear.j0
      repeat' first
      | (with_reducible exact ih0 _ _ _ _ _ _)
      | (with_reducible exact ih1 _ _ _ _ _ _ _)
      | (with_reducible exact crc_Sum.mono _ _ _)
      | (with_reducible exact decklelaw02_small.mono _)
      | (with_reducible exact LeO.refl _)
      | (with_reducible exact LeO.none _)
      | (with_reducible refine LeO.ite ?_ ?_)
      | (with_reducible refine LeO.bind ?_ (fun _ => ?_))
      | exact ih0 _ _ _ _ _ _
      | exact ih1 _ _ _ _ _ _ _
      | exact crc_Sum.mono _ _ _
      | exact decklelaw02_small.mono _
      | exact LeO.none _
      | refine LeO.ite ?_ ?_
      | refine LeO.bind ?_ (fun _ => ?_)
    · intro y0 y1 y2 y3 y4 y5 y6
      unfold decklelaw02_CrcLinear.l0
      repeat' first
      | (with_reducible exact ih0 _ _ _ _ _ _)
      | (with_reducible exact ih1 _ _ _ _ _ _ _)
      | (with_reducible exact crc_Sum.mono _ _ _)
      | (with_reducible exact decklelaw02_small.mono _)
      | (with_reducible exact LeO.refl _)
      | (with_reducible exact LeO.none _)
      | (with_reducible refine LeO.ite ?_ ?_)
      | (with_reducible refine LeO.bind ?_ (fun _ => ?_))
      | exact ih0 _ _ _ _ _ _
      | exact ih1 _ _ _ _ _ _ _
      | exact crc_Sum.mono _ _ _
      | exact decklelaw02_small.mono _
      | exact LeO.none _
      | refine LeO.ite ?_ ?_
      | refine LeO.bind ?_ (fun _ => ?_)
theorem decklelaw02_CrcLinear.mono : ∀ a0 a1 a2 a3 k, LeO (decklelaw02_CrcLinear.f k a0 a1 a2 a3) (decklelaw02_CrcLinear.f (k + 1) a0 a1 a2 a3) := by
  intro a0 a1 a2 a3 k
  obtain ⟨ih0, ih1⟩ := decklelaw02_CrcLinear.mono_l k
  unfold decklelaw02_CrcLinear.f
  repeat' first
      | (with_reducible exact ih0 _ _ _ _ _ _)
      | (with_reducible exact ih1 _ _ _ _ _ _ _)
      | (with_reducible exact crc_Sum.mono _ _ _)
      | (with_reducible exact decklelaw02_small.mono _)
      | (with_reducible exact LeO.refl _)
      | (with_reducible exact LeO.none _)
      | (with_reducible refine LeO.ite ?_ ?_)
      | (with_reducible refine LeO.bind ?_ (fun _ => ?_))
      | exact ih0 _ _ _ _ _ _
      | exact ih1 _ _ _ _ _ _ _
      | exact crc_Sum.mono _ _ _
      | exact decklelaw02_small.mono _
      | exact LeO.none _
      | refine LeO.ite ?_ ?_
      | refine LeO.bind ?_ (fun _ => ?_)
def decklelaw02_CrcLinear.T9 : Bool × List (List Nat × List Nat) := (true, [([], []), ([], []), ([], []), ([1, 2], [1, 2]), ([3], [3]), ([], []), ([], []), ([5, 6], [5, 6]), ([7], [7]), ([4, 8], [4, 8]), ([], []), ([], []), ([10, 11], [10, 11]), ([12], [12]), ([9, 13], [9, 13]), ([14], [14]), ([0, 15], [0, 15]), ([16, 16, 0, 1, 2, 3, 4, 5, 6, 7, 8, 9, 10, 11, 12, 13, 14, 15, 16], [0, 16])])
def decklelaw02_CrcLinear.B9 : List Nat := [0, 0, 0, 6, 14, 0, 0, 96, 224, 510, 0, 0, 3072, 7168, 16382, 32766, 65535, 131071]
theorem decklelaw02_CrcLinear.tab9 : rtab .any (opsOf Try.f6 9) = decklelaw02_CrcLinear.T9 := by kernel_rfl
theorem decklelaw02_CrcLinear.bits9 : waitsOk decklelaw02_CrcLinear.T9.2 decklelaw02_CrcLinear.B9 = true := by kernel_rfl
def decklelaw02_CrcLinear.T10 : Bool × List (List Nat × List Nat) := (true, [([], []), ([0], [0]), ([1], [1]), ([1], [1]), ([3, 1], [1, 3]), ([2, 4, 1, 1], [1, 2, 4]), ([1], [1]), ([1], [1]), ([7, 1], [1, 7]), ([6, 8, 5, 1], [1, 6, 8]), ([1], [1]), ([1], [1]), ([11, 1], [1, 11]), ([10, 12, 9, 1], [1, 10, 12]), ([9, 13, 1], [1, 9, 13]), ([1], [1]), ([1], [1]), ([16, 1], [1, 16]), ([15, 17, 13, 1], [1, 15, 17]), ([14, 18, 1], [1, 14, 18]), ([5, 19, 1], [1, 5, 19]), ([1, 20], [1, 20]), ([21, 18, 0, 1, 2, 3, 4, 5, 6, 7, 8, 9, 10, 11, 12, 13, 14, 15, 16, 17, 18, 19, 20, 21], [21])])
def decklelaw02_CrcLinear.B10 : List Nat := [0, 1, 3, 3, 11, 31, 3, 3, 131, 511, 3, 3, 2051, 8191, 16383, 3, 3, 65539, 245759, 524287, 1048575, 2097151, 4194303]
theorem decklelaw02_CrcLinear.tab10 : rtab .any (opsOf Try.f6 10) = decklelaw02_CrcLinear.T10 := by kernel_rfl
theorem decklelaw02_CrcLinear.bits10 : waitsOk decklelaw02_CrcLinear.T10.2 decklelaw02_CrcLinear.B10 = true := by kernel_rfl
abbrev QQ (P1_ : Nat → Prop) (P2_ : Nat → Prop) (P3_ : Nat → Prop) (w : World) (k_ : Nat) : Prop := (P1_ k_ ∨ P2_ k_ ∨ P3_ k_) ∨ w.heap.size ≤ k_
abbrev NB (v : Value) (k : Nat) : Prop := some k ≠ v.ownBlock
theorem lit1 {w : World} {base : Nat} {a : Act} {ops : Array Oper} {o : Oper} {Q : Exit → Act → World → Prop} {Kc : Act → World → Prop} {W : World} {A : Option Addr} {c : Nat} {l : List Int} {ok : Nat → Prop} {N' : Tmp} (hd : o.dst = some N')
    (hV : Kd.V (Kd.int .u8) 5 W base ok (.slice A l.length c) l) (hfr : ∀ k, W.heap.size ≤ k → ok k) (hr : (execOp a.eval o).run Try.prog W = .ok (.value (.slice (some ⟨W.heap.size, 0, none⟩) 1 1)) (W.alloc (.cells [Value.slice A l.length c].toArray 28))) (hB : Below w.heap.size w W)
    (h : ∀ v1 w1, Kd.N (Kd.slice 5 (Kd.int .u8)) 28 w1 W.heap.size ok v1 [l] → Below W.heap.size W w1 → W.grownBy w1 none → (∃ b, v1.ownBlock = some b ∧ W.heap.size ≤ b) → Kc (a.put o.dst v1) w1) (hw : Region.wanted o (yielded ops a.tmps) = true := by rfl) :
    if Region.wanted o (yielded ops a.tmps) = true then Oper.wp Try.prog o a W Kc Q else Kc (a.put o.dst undef) W :=
  Kd.N_lit_step (Kd.slice 5 (Kd.int .u8)) (w0 := W) W.heap.size 28 hw hd (xs := [l]) (inner := [.slice A l.length c]) (ok := ok) (okp := ok) hr
    (Reps.one (show Kd.FK (Kd.slice 5 (Kd.int .u8)) _ _ l [.slice A l.length c] from Kd.FK_slice_mk (Kd.V_reads' hV).2.1 (Kd.V_F hV)) (Reps.none _ _)) (fun _ hk => hk) (hfr _ (Nat.le_refl _)) (Below.refl _ _) (Nat.le_refl _) (by simp) h
section
variable {α : Type} {d : Kd α} {e base : Nat} {ok : Nat → Prop} {W w1 w : World} {v u : Value} {xs : List α} {β : Type} {d2 : Kd β} {e2 : Nat} {ok2 : Nat → Prop} {ys : List β} {g : Nat} {o : Obj}
theorem vE (h : Aside0 (Kd.V d e W base ok v xs)) (n : Kd.N d2 e2 w1 W.heap.size ok2 u ys) (hb : Below W.heap.size W w1) : Aside0 (Kd.V d e w1 base (fun k => ok k ∧ some k ≠ u.ownBlock) v xs) := ⟨Kd.V_elder' h.out (Kd.N_base n) hb⟩
theorem nE (h : Aside0 (Kd.N d e W base ok v xs)) (n : Kd.N d2 e2 w1 W.heap.size ok2 u ys) (hb : Below W.heap.size W w1) : Aside0 (Kd.N d e w1 base (fun k => ok k ∧ some k ≠ u.ownBlock) v xs) := ⟨Kd.N_elder' h.out (Kd.N_base n) hb⟩
theorem vB (h : Aside0 (Kd.V d e W base ok v xs)) (hb : Below W.heap.size W w1) : Aside0 (Kd.V d e w1 base ok v xs) := ⟨Kd.V_below h.out hb⟩
theorem nB (h : Aside0 (Kd.N d e W base ok v xs)) (hb : Below W.heap.size W w1) : Aside0 (Kd.N d e w1 base ok v xs) := ⟨Kd.N_below h.out hb⟩
theorem rB (h : Aside0 (Kd.R d e W base ok v xs)) (hb : Below W.heap.size W w1) : Aside0 (Kd.R d e w1 base ok v xs) := ⟨Kd.R_below h.out hb⟩
theorem bB (h : Aside0 (W.heap[g]? = some o)) (hb : Below W.heap.size W w1) : Aside0 (w1.heap[g]? = some o) := ⟨blk_below h.out hb⟩
theorem hB (h : Aside0 (Below w.heap.size w W)) (hb : Below W.heap.size W w1) : Aside0 (Below w.heap.size w w1) := ⟨below_step h.out hb⟩
theorem nL (n : Kd.N d e w1 W.heap.size ok v xs) (h : Aside0 (Below w.heap.size w W)) : Aside0 (Kd.N d e w1 w.heap.size ok v xs) := ⟨Kd.N_lower n (below_size h.out)⟩
theorem fN (h : Aside0 (Kd.N d e W base ok v xs)) {k : Nat} (hk : W.heap.size ≤ k) : some k ≠ v.ownBlock := Kd.fresh' (Kd.N_lt h.out) k hk
theorem fB (h : Aside0 (W.heap[g]? = some o)) {k : Nat} (hk : W.heap.size ≤ k) : k ≠ g := Kd.freshB h.out k hk
theorem fW (h : Aside0 (Below w.heap.size w W)) {k : Nat} (hk : W.heap.size ≤ k) : w.heap.size ≤ k := Nat.le_trans (below_size h.out) hk
end
abbrev VN (w' w : World) := Kd.N (Kd.slice 5 (Kd.int .u8)) 28 w' w.heap.size
abbrev VV (w' w : World) := Kd.V (Kd.int .u8) 5 w' w.heap.size
theorem sA {α : Type} (l : List α) (i : Nat) (a : α) : l.toArray.setIfInBounds i a = (l.set i a).toArray := List.setIfInBounds_toArray l i a
theorem sZ {α : Type} (x : α) (xs : List α) (a : α) : (x :: xs).set 0 a = a :: xs := rfl
theorem sS {α : Type} (x : α) (xs : List α) (i : Nat) (a : α) : (x :: xs).set (i + 1) a = x :: xs.set i a := rfl
abbrev Y : Bool := true
abbrev Z : Bool := false
@[reducible] def tq0 : Array Bool := #[Y,Y,Y,Y,Y,Y,Y,Y,Y,Y,Y,Y,Y,Y,Y,Y,Y,Y,Y,Y,Y,Y,Y]
@[reducible] def tq1 : Array Bool := #[Y,Y,Y,Y,Y,Y,Y,Y,Y,Y,Y,Y,Y,Y,Y,Y,Y,Y,Y,Y,Y,Y,Z]
@[reducible] def tq2 : Array Bool := #[Y,Y,Y,Y,Y,Y,Y,Y,Y,Y,Y,Y,Y,Y,Y,Y,Y,Y,Y,Y,Y,Z,Z]
@[reducible] def tq3 : Array Bool := #[Y,Y,Y,Y,Y,Y,Y,Y,Y,Y,Y,Y,Y,Y,Y,Y,Y,Y,Y,Y,Z,Z,Z]
@[reducible] def tq4 : Array Bool := #[Y,Y,Y,Y,Y,Y,Y,Y,Y,Y,Y,Y,Y,Y,Y,Y,Y,Y,Y,Z,Z,Z,Z]
@[reducible] def tq5 : Array Bool := #[Y,Y,Y,Y,Y,Y,Y,Y,Y,Y,Y,Y,Y,Y,Y,Y,Y,Y,Z,Z,Z,Z,Z]
@[reducible] def tq6 : Array Bool := #[Y,Y,Y,Y,Y,Y,Y,Y,Y,Y,Y,Y,Y,Y,Y,Y,Y,Y]
@[reducible] def tq7 : Array Bool := #[Y,Y,Y,Y,Y,Y,Y,Y,Y,Y,Y,Y,Y,Y,Z,Y,Y,Y,Z,Z,Z,Z,Z]
@[reducible] def tq8 : Array Bool := #[Y,Y,Y,Y,Y,Y,Y,Y,Y,Y,Y,Y,Y,Y,Y,Y,Y,Z,Z,Z,Z,Z,Z]
@[reducible] def tq9 : Array Bool := #[Y,Y,Y,Y,Y,Y,Y,Y,Y,Y,Y,Y,Y,Y,Y,Y,Y,Z]
@[reducible] def tq10 : Array Bool := #[Y,Y,Y,Y,Y,Y,Y,Y,Y,Y,Y,Y,Y,Z,Z,Y,Y,Y,Z,Z,Z,Z,Z]
@[reducible] def tq11 : Array Bool := #[Y,Y,Y,Y,Y,Y,Y,Y,Y,Y,Y,Y,Y,Y,Z,Y,Y,Z,Z,Z,Z,Z,Z]
@[reducible] def tq12 : Array Bool := #[Y,Y,Y,Y,Y,Y,Y,Y,Y,Y,Y,Y,Y,Y,Y,Y,Z,Z]
@[reducible] def tq13 : Array Bool := #[Y,Y,Y,Y,Y,Y,Y,Y,Y,Z,Y,Y,Y,Z,Z,Y,Y,Y,Z,Z,Z,Z,Z]
@[reducible] def tq14 : Array Bool := #[Y,Y,Y,Y,Y,Y,Y,Y,Y,Y,Y,Y,Z,Z,Z,Y,Y,Y,Z,Z,Z,Z,Z]
@[reducible] def tq15 : Array Bool := #[Y,Y,Y,Y,Y,Y,Y,Y,Y,Y,Y,Y,Y,Z,Z,Y,Y,Z,Z,Z,Z,Z,Z]
@[reducible] def tq16 : Array Bool := #[Y,Y,Y,Y,Y,Y,Y,Y,Y,Y,Y,Y,Y,Y,Y,Z,Z,Z]
@[reducible] def tq17 : Array Bool := #[Y,Y,Y,Y,Y,Z,Y,Y,Y,Z,Y,Y,Y,Z,Z,Y,Y,Y,Z,Z,Z,Z,Z]
@[reducible] def tq18 : Array Bool := #[Y,Y,Y,Y,Y,Y,Y,Y,Z,Z,Y,Y,Y,Z,Z,Y,Y,Y,Z,Z,Z,Z,Z]
@[reducible] def tq19 : Array Bool := #[Y,Y,Y,Y,Y,Y,Y,Y,Y,Z,Y,Y,Z,Z,Z,Y,Y,Y,Z,Z,Z,Z,Z]
@[reducible] def tq20 : Array Bool := #[Y,Y,Y,Y,Y,Y,Y,Y,Y,Z,Y,Y,Y,Z,Z,Y,Y,Z,Z,Z,Z,Z,Z]
@[reducible] def tq21 : Array Bool := #[Y,Y,Y,Y,Y,Y,Y,Y,Y,Y,Y,Y,Z,Z,Z,Y,Y,Z,Z,Z,Z,Z,Z]
@[reducible] def tq22 : Array Bool := #[Y,Y,Y,Y,Y,Y,Y,Y,Y,Y,Y,Y,Y,Y,Z,Z,Z,Z]
@[reducible] def tq23 : Array Bool := #[Y,Y,Y,Y,Z,Z,Y,Y,Y,Z,Y,Y,Y,Z,Z,Y,Y,Y,Z,Z,Z,Z,Z]
@[reducible] def tq24 : Array Bool := #[Y,Y,Y,Y,Y,Z,Y,Y,Z,Z,Y,Y,Y,Z,Z,Y,Y,Y,Z,Z,Z,Z,Z]
@[reducible] def tq25 : Array Bool := #[Y,Y,Y,Y,Y,Z,Y,Y,Y,Z,Y,Y,Z,Z,Z,Y,Y,Y,Z,Z,Z,Z,Z]
@[reducible] def tq26 : Array Bool := #[Y,Y,Y,Y,Y,Z,Y,Y,Y,Z,Y,Y,Y,Z,Z,Y,Y,Z,Z,Z,Z,Z,Z]
@[reducible] def tq27 : Array Bool := #[Y,Y,Y,Y,Y,Y,Y,Y,Z,Z,Y,Y,Z,Z,Z,Y,Y,Y,Z,Z,Z,Z,Z]
@[reducible] def tq28 : Array Bool := #[Y,Y,Y,Y,Y,Y,Y,Y,Z,Z,Y,Y,Y,Z,Z,Y,Y,Z,Z,Z,Z,Z,Z]
@[reducible] def tq29 : Array Bool := #[Y,Y,Y,Y,Y,Y,Y,Y,Y,Z,Y,Y,Z,Z,Z,Y,Y,Z,Z,Z,Z,Z,Z]
@[reducible] def tq30 : Array Bool := #[Y,Y,Y,Y,Y,Y,Y,Y,Y,Y,Y,Y,Y,Z,Z,Z,Z,Z]
@[reducible] def tq31 : Array Bool := #[Y,Y,Y,Y,Z,Z,Y,Y,Z,Z,Y,Y,Y,Z,Z,Y,Y,Y,Z,Z,Z,Z,Z]
@[reducible] def tq32 : Array Bool := #[Y,Y,Y,Y,Z,Z,Y,Y,Y,Z,Y,Y,Z,Z,Z,Y,Y,Y,Z,Z,Z,Z,Z]
@[reducible] def tq33 : Array Bool := #[Y,Y,Y,Y,Z,Z,Y,Y,Y,Z,Y,Y,Y,Z,Z,Y,Y,Z,Z,Z,Z,Z,Z]
@[reducible] def tq34 : Array Bool := #[Y,Y,Y,Y,Y,Z,Y,Y,Z,Z,Y,Y,Z,Z,Z,Y,Y,Y,Z,Z,Z,Z,Z]
@[reducible] def tq35 : Array Bool := #[Y,Y,Y,Y,Y,Z,Y,Y,Z,Z,Y,Y,Y,Z,Z,Y,Y,Z,Z,Z,Z,Z,Z]
@[reducible] def tq36 : Array Bool := #[Y,Y,Y,Y,Y,Z,Y,Y,Y,Z,Y,Y,Z,Z,Z,Y,Y,Z,Z,Z,Z,Z,Z]
@[reducible] def tq37 : Array Bool := #[Y,Y,Y,Y,Y,Y,Y,Y,Z,Z,Y,Y,Z,Z,Z,Y,Y,Z,Z,Z,Z,Z,Z]
@[reducible] def tq38 : Array Bool := #[Y,Y,Y,Y,Y,Y,Y,Y,Y,Z,Y,Y,Y,Z,Z,Z,Z,Z]
@[reducible] def tq39 : Array Bool := #[Y,Y,Y,Y,Z,Z,Y,Y,Z,Z,Y,Y,Z,Z,Z,Y,Y,Y,Z,Z,Z,Z,Z]
@[reducible] def tq40 : Array Bool := #[Y,Y,Y,Y,Z,Z,Y,Y,Z,Z,Y,Y,Y,Z,Z,Y,Y,Z,Z,Z,Z,Z,Z]
@[reducible] def tq41 : Array Bool := #[Y,Y,Y,Y,Z,Z,Y,Y,Y,Z,Y,Y,Z,Z,Z,Y,Y,Z,Z,Z,Z,Z,Z]
@[reducible] def tq42 : Array Bool := #[Y,Y,Y,Y,Y,Z,Y,Y,Z,Z,Y,Y,Z,Z,Z,Y,Y,Z,Z,Z,Z,Z,Z]
@[reducible] def tq43 : Array Bool := #[Y,Y,Y,Y,Y,Y,Y,Y,Z,Z,Y,Y,Y,Z,Z,Z,Z,Z]
@[reducible] def tq44 : Array Bool := #[Y,Y,Y,Y,Z,Z,Y,Y,Z,Z,Y,Y,Z,Z,Z,Y,Y,Z,Z,Z,Z,Z,Z]
@[reducible] def tq45 : Array Bool := #[Y,Y,Y,Y,Z,Y,Y,Y,Z,Z,Y,Y,Y,Z,Z,Z,Z,Z]
@[reducible] def tq46 : Array Bool := #[Y,Y,Y,Y,Z,Z,Y,Y,Z,Z,Y,Y,Z,Z,Z,Z,Y,Z,Z,Z,Z,Z,Z]
@[reducible] def tq47 : Array Bool := #[Y,Y,Y,Y,Z,Y,Y,Y,Z,Z,Y,Y,Z,Z,Z,Z,Z,Z]
@[reducible] def tq48 : Array Bool := #[Y,Y,Y,Y,Z,Z,Y,Y,Z,Z,Z,Y,Z,Z,Z,Z,Y,Z,Z,Z,Z,Z,Z]
@[reducible] def tq49 : Array Bool := #[Y,Y,Y,Y,Z,Y,Y,Y,Z,Z,Y,Z,Z,Z,Z,Z,Z,Z]
@[reducible] def tq50 : Array Bool := #[Y,Y,Y,Y,Z,Z,Z,Y,Z,Z,Z,Y,Z,Z,Z,Z,Y,Z,Z,Z,Z,Z,Z]
@[reducible] def tq51 : Array Bool := #[Y,Y,Y,Y,Z,Y,Y,Y,Z,Z,Z,Z,Z,Z,Z,Z,Z,Z]
@[reducible] def tq52 : Array Bool := #[Y,Y,Z,Y,Z,Z,Z,Y,Z,Z,Z,Y,Z,Z,Z,Z,Y,Z,Z,Z,Z,Z,Z]
@[reducible] def tq53 : Array Bool := #[Y,Y,Y,Y,Z,Y,Y,Z,Z,Z,Z,Z,Z,Z,Z,Z,Z,Z]
@[reducible] def tq54 : Array Bool := #[Y,Y,Z,Y,Z,Z,Z,Y,Z,Z,Z,Y,Z,Z,Z,Z,Z,Z,Z,Z,Z,Z,Z]
@[reducible] def tq55 : Array Bool := #[Y,Y,Y,Y,Z,Y,Z,Z,Z,Z,Z,Z,Z,Z,Z,Z,Z,Z]
@[reducible] def tq56 : Array Bool := #[Y,Y,Z,Y,Z,Z,Z,Y,Z,Z,Z,Z,Z,Z,Z,Z,Z,Z,Z,Z,Z,Z,Z]
@[reducible] def tq57 : Array Bool := #[Y,Y,Y,Y,Z,Z,Z,Z,Z,Z,Z,Z,Z,Z,Z,Z,Z,Z]
@[reducible] def tq58 : Array Bool := #[Y,Y,Z,Y,Z,Z,Z,Z,Z,Z,Z,Z,Z,Z,Z,Z,Z,Z,Z,Z,Z,Z,Z]
@[reducible] def tq59 : Array Bool := #[Y,Y,Y,Z,Z,Z,Z,Z,Z,Z,Z,Z,Z,Z,Z,Z,Z,Z]
@[reducible] def tq60 : Array Bool := #[Y,Y,Z,Z,Z,Z,Z,Z,Z,Z,Z,Z,Z,Z,Z,Z,Z,Z,Z,Z,Z,Z,Z]
@[reducible] def tq61 : Array Bool := #[Y,Y,Z,Z,Z,Z,Z,Z,Z,Z,Z,Z,Z,Z,Z,Z,Z,Z]
@[reducible] def tq62 : Array Bool := #[Y,Z,Z,Z,Z,Z,Z,Z,Z,Z,Z,Z,Z,Z,Z,Z,Z,Z,Z,Z,Z,Z,Z]
@[reducible] def tq63 : Array Bool := #[Y,Z,Z,Z,Z,Z,Z,Z,Z,Z,Z,Z,Z,Z,Z,Z,Z,Z]
@[reducible] def tq64 : Array Bool := #[Z,Z,Z,Z,Z,Z,Z,Z,Z,Z,Z,Z,Z,Z,Z,Z,Z,Z,Z,Z,Z,Z,Z]
@[reducible] def tq65 : Array Bool := #[Z,Z,Z,Z,Z,Z,Z,Z,Z,Z,Z,Z,Z,Z,Z,Z,Z,Z]

end Go.Proofs.Ytdoofhbapenhnaa.HCrcLinear
