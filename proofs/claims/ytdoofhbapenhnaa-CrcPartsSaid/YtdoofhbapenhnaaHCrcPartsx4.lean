-- Written by the session's program hy.py.
import Derived.Test.YtdoofhbapenhnaaHCrcPartsx0
import Derived.Test.YtdoofhbapenhnaaHCrcPartsx1
import Derived.Test.YtdoofhbapenhnaaHCrcPartsx3
namespace Go.Proofs.Ytdoofhbapenhnaa.HCrcParts
open Go.RowKit Go.Proofs.YtdoofhbapenhnaaW.PrintWords Go.Proofs.YtdoofhbapenhnaaW.PrintLast Go.Proofs.YtdoofhbapenhnaaW.PrintMore
attribute [local go_sem] max2_int min2_int max_two min_two max_three min_three max_four min_four   -- for this text's walks alone
set_option linter.unusedVariables false
set_option linter.unusedSimpArgs false

/-! ### decklelaw02_CrcParts: function 5 -/
mutual
def decklelaw02_CrcParts.j0 : Nat → List Int → Int → Int → Bool → Bool → (List Int) → Option (Bool)
  | 0, _, _, _, _, _, _ => none
  | k + 1, x1, x2, x3, x9, x30, x195000 => if x30 = true then (some x9) else ((crc_Sum.f k x195000 (([x1] : List (List Int)))).bind fun t199 => ((crc_Seal.f k x195000 (([x1] : List (List Int)))).bind fun t203 => (if 0 ≤ x2 then (if x2 ≤ (x1.length : Int) then ((crc_Sum.f k x195000 (([(x1.take (x2 : Int).toNat)] : List (List Int)))).bind fun t214 => (if x2 ≤ x3 then (if x3 ≤ (x1.length : Int) then (if 0 ≤ x3 then ((some (x1.drop (x3 : Int).toNat : List Int)).bind fun y220 => ((crc_More.f k x195000 t214 (([((x1.take (x3 : Int).toNat).drop (x2 : Int).toNat), y220] : List (List Int)))).bind fun t228 => (if t228 = t199 then ((crc_More.f k x195000 0 (([(x1.take (x3 : Int).toNat)] : List (List Int)))).bind fun t237 => ((crc_More.f k x195000 t237 (([y220] : List (List Int)))).bind fun t246 => (if t246 = t199 then ((crc_More.f k x195000 t199 ([] : List (List Int))).bind fun t247 => (decklelaw02_CrcParts.j1 k x1 x2 x3 x9 t199 t203 (t247 != t199) x195000)) else (none)))) else (none)))) else (none)) else (none)) else (none))) else (none)) else (none))))
def decklelaw02_CrcParts.j1 : Nat → List Int → Int → Int → Bool → Int → List Int → Bool → (List Int) → Option (Bool)
  | 0, _, _, _, _, _, _, _, _ => none
  | k + 1, x1, x2, x3, x9, x10, x11, x80, x195000 => if x80 = true then (none) else (if x9 = true then (if 0 ≤ x2 then (if x2 ≤ (x1.length : Int) then ((some (x1.take (x2 : Int).toNat : List Int)).bind fun y248 => (if x2 ≤ x3 then (if x3 ≤ (x1.length : Int) then (if 0 ≤ x3 then ((crc_Sum.f k x195000 (([y248, ((x1.take (x3 : Int).toNat).drop (x2 : Int).toNat), [], (x1.drop (x3 : Int).toNat)] : List (List Int)))).bind fun t266 => (if t266 = x10 then ((crc_Seal.f k x195000 (([y248, [], (x1.drop (x2 : Int).toNat)] : List (List Int)))).bind fun t280 => (if (strOfNums t280).toList = (strOfNums x11).toList then ((crc_Sum.f k x195000 (([[], x1] : List (List Int)))).bind fun t286 => (some (t286 == x10))) else (none))) else (none))) else (none)) else (none)) else (none))) else (none)) else (none)) else (none))
end
def decklelaw02_CrcParts.f (k : Nat) (a0_0 : (List Int)) (l1 : List Int) (a2 : Int) (a3 : Int) : Option (Bool) := (decklelaw02_small.f k).bind fun t195 => (if (l1.length : Int) > 1000 then (decklelaw02_CrcParts.j0 k l1 a2 a3 t195 true a0_0) else (if a2 < 0 then (decklelaw02_CrcParts.j0 k l1 a2 a3 t195 true a0_0) else (if a3 < a2 then (decklelaw02_CrcParts.j0 k l1 a2 a3 t195 true a0_0) else (decklelaw02_CrcParts.j0 k l1 a2 a3 t195 (decide (a3 > (l1.length : Int))) a0_0))))
theorem decklelaw02_CrcParts.mono_l : ∀ k, (∀ y0 y1 y2 y3 y4 y5, LeO (decklelaw02_CrcParts.j0 k y0 y1 y2 y3 y4 y5) (decklelaw02_CrcParts.j0 (k + 1) y0 y1 y2 y3 y4 y5)) ∧ (∀ y0 y1 y2 y3 y4 y5 y6 y7, LeO (decklelaw02_CrcParts.j1 k y0 y1 y2 y3 y4 y5 y6 y7) (decklelaw02_CrcParts.j1 (k + 1) y0 y1 y2 y3 y4 y5 y6 y7))
  | 0 => ⟨fun _ _ _ _ _ _ r h => by simp [decklelaw02_CrcParts.j0] at h, fun _ _ _ _ _ _ _ _ r h => by simp [decklelaw02_CrcParts.j1] at h⟩
  | k + 1 => by
    obtain ⟨ih0, ih1⟩ := decklelaw02_CrcParts.mono_l k
    refine ⟨?_, ?_⟩
    · intro y0 y1 y2 y3 y4 y5
      unfold decklelaw02_CrcParts.j0
      repeat' first
      | (with_reducible exact ih0 _ _ _ _ _ _)
      | (with_reducible exact ih1 _ _ _ _ _ _ _ _)
      | (with_reducible exact crc_More.mono _ _ _ _)
      | (with_reducible exact crc_Seal.mono _ _ _)
      | (with_reducible exact crc_Sum.mono _ _ _)
      | (with_reducible exact decklelaw02_small.mono _)
      | (with_reducible exact LeO.refl _)
      | (with_reducible exact LeO.none _)
      | (with_reducible refine LeO.ite ?_ ?_)
      | (with_reducible refine LeO.bind ?_ (fun _ => ?_))
      | exact ih0 _ _ _ _ _ _
      | exact ih1 _ _ _ _ _ _ _ _
      | exact crc_More.mono _ _ _ _
      | exact crc_Seal.mono _ _ _
      | exact crc_Sum.mono _ _ _
      | exact decklelaw02_small.mono _
      | exact LeO.none _
      | refine LeO.ite ?_ ?_
      | refine LeO.bind ?_ (fun _ => ?_)
    · intro y0 y1 y2 y3 y4 y5 y6 y7
      unfold decklelaw02_CrcParts.j1
      repeat' first
      | (with_reducible exact ih0 _ _ _ _ _ _)
      | (with_reducible exact ih1 _ _ _ _ _ _ _ _)
      | (with_reducible exact crc_More.mono _ _ _ _)
      | (with_reducible exact crc_Seal.mono _ _ _)
      | (with_reducible exact crc_Sum.mono _ _ _)
      | (with_reducible exact decklelaw02_small.mono _)
      | (with_reducible exact LeO.refl _)
      | (with_reducible exact LeO.none _)
      | (with_reducible refine LeO.ite ?_ ?_)
      | (with_reducible refine LeO.bind ?_ (fun _ => ?_))
      | exact ih0 _ _ _ _ _ _
      | exact ih1 _ _ _ _ _ _ _ _
      | exact crc_More.mono _ _ _ _
      | exact crc_Seal.mono _ _ _
      | exact crc_Sum.mono _ _ _
      | exact decklelaw02_small.mono _
      | exact LeO.none _
      | refine LeO.ite ?_ ?_
      | refine LeO.bind ?_ (fun _ => ?_)
theorem decklelaw02_CrcParts.mono : ∀ a0 a1 a2 a3 k, LeO (decklelaw02_CrcParts.f k a0 a1 a2 a3) (decklelaw02_CrcParts.f (k + 1) a0 a1 a2 a3) := by
  intro a0 a1 a2 a3 k
  obtain ⟨ih0, ih1⟩ := decklelaw02_CrcParts.mono_l k
  unfold decklelaw02_CrcParts.f
  repeat' first
      | (with_reducible exact ih0 _ _ _ _ _ _)
      | (with_reducible exact ih1 _ _ _ _ _ _ _ _)
      | (with_reducible exact crc_More.mono _ _ _ _)
      | (with_reducible exact crc_Seal.mono _ _ _)
      | (with_reducible exact crc_Sum.mono _ _ _)
      | (with_reducible exact decklelaw02_small.mono _)
      | (with_reducible exact LeO.refl _)
      | (with_reducible exact LeO.none _)
      | (with_reducible refine LeO.ite ?_ ?_)
      | (with_reducible refine LeO.bind ?_ (fun _ => ?_))
      | exact ih0 _ _ _ _ _ _
      | exact ih1 _ _ _ _ _ _ _ _
      | exact crc_More.mono _ _ _ _
      | exact crc_Seal.mono _ _ _
      | exact crc_Sum.mono _ _ _
      | exact decklelaw02_small.mono _
      | exact LeO.none _
      | refine LeO.ite ?_ ?_
      | refine LeO.bind ?_ (fun _ => ?_)
def decklelaw02_CrcParts.T6 : Bool × List (List Nat × List Nat) := (true, [([], []), ([], []), ([], []), ([], []), ([2, 3], [2, 3]), ([4], [4]), ([1, 5], [1, 5]), ([], []), ([], []), ([], []), ([7, 8, 9], [7, 8, 9]), ([], []), ([], []), ([11, 12], [11, 12]), ([10, 13], [10, 13]), ([0, 6, 14, 6], [0, 6, 14]), ([], []), ([15, 16], [15, 16]), ([17, 15], [17]), ([18], [18]), ([18], [18]), ([18], [18]), ([18], [18]), ([21, 22, 18], [18, 21, 22]), ([23, 18], [18, 23]), ([20, 24, 18, 18], [18, 20, 24]), ([18], [18]), ([18], [18]), ([26, 27, 18], [18, 26, 27]), ([28, 18], [18, 28]), ([19, 25, 29, 25, 18], [18, 19, 25, 29]), ([18], [18]), ([30, 31, 18], [18, 30, 31]), ([18, 32], [18, 32]), ([33, 30], [33]), ([34], [34]), ([34], [34]), ([35, 36, 34, 34], [34, 35, 36]), ([34], [34]), ([37, 38, 34], [34, 37, 38]), ([34, 39], [34, 39])])
def decklelaw02_CrcParts.B6 : List Nat := [0, 0, 0, 0, 12, 28, 62, 0, 0, 0, 896, 0, 0, 6144, 16256, 32767, 0, 131071, 262143, 524287, 524287, 524287, 524287, 6815743, 15204351, 33030143, 524287, 524287, 201850879, 470286335, 1073741823, 524287, 4294967295, 8589934591, 17179869183, 34359738367, 34359738367, 137438953471, 34359738367, 549755813887, 1099511627775]
theorem decklelaw02_CrcParts.tab6 : rtab .any (opsOf Try.f5 6) = decklelaw02_CrcParts.T6 := by kernel_rfl
theorem decklelaw02_CrcParts.bits6 : waitsOk decklelaw02_CrcParts.T6.2 decklelaw02_CrcParts.B6 = true := by kernel_rfl
def decklelaw02_CrcParts.T8 : Bool × List (List Nat × List Nat) := (true, [([], []), ([0], [0]), ([1], [1]), ([1], [1]), ([1], [1]), ([3, 4, 1], [1, 3, 4]), ([1], [1]), ([1], [1]), ([1], [1]), ([6, 7, 8, 1], [1, 6, 7, 8]), ([1], [1]), ([1], [1]), ([10, 11, 1], [1, 10, 11]), ([5, 9, 12, 1], [1, 5, 9, 12]), ([2, 13, 1, 1], [1, 2, 13]), ([1], [1]), ([14, 15, 1], [1, 14, 15]), ([1, 16], [1, 16]), ([17, 14], [17]), ([18], [18]), ([18], [18]), ([18], [18]), ([20, 21, 18], [18, 20, 21]), ([18], [18]), ([18], [18]), ([23, 24, 18], [18, 23, 24]), ([22, 25, 18], [18, 22, 25]), ([19, 26, 18, 18], [18, 19, 26]), ([27, 18], [18, 27]), ([18], [18]), ([29, 18], [18, 29]), ([28, 30, 18], [18, 28, 30]), ([18, 31], [18, 31]), ([32, 27], [32]), ([33], [33]), ([33], [33]), ([35, 33], [33, 35]), ([34, 36, 33, 33], [33, 34, 36]), ([33], [33]), ([37, 38, 33], [33, 37, 38]), ([33, 39], [33, 39]), ([40, 37, 0, 1, 2, 3, 4, 5, 6, 7, 8, 9, 10, 11, 12, 13, 14, 15, 16, 17, 18, 19, 20, 21, 22, 23, 24, 25, 26, 27, 28, 29, 30, 31, 32, 33, 34, 35, 36, 37, 38, 39, 40], [40])])
def decklelaw02_CrcParts.B8 : List Nat := [0, 1, 3, 3, 3, 27, 3, 3, 3, 451, 3, 3, 3075, 8187, 16383, 3, 65535, 131071, 262143, 524287, 524287, 524287, 3670015, 524287, 524287, 25690111, 66584575, 134217727, 268435455, 524287, 537395199, 2147483647, 4294967295, 8589934591, 17179869183, 17179869183, 51539607551, 137438953471, 17179869183, 549755813887, 1099511627775, 2199023255551]
theorem decklelaw02_CrcParts.tab8 : rtab .any (opsOf Try.f5 8) = decklelaw02_CrcParts.T8 := by kernel_rfl
theorem decklelaw02_CrcParts.bits8 : waitsOk decklelaw02_CrcParts.T8.2 decklelaw02_CrcParts.B8 = true := by kernel_rfl
abbrev NB (v : Value) (k : Nat) : Prop := some k ≠ v.ownBlock
theorem lit1 {w : World} {base : Nat} {a : Act} {ops : Array Oper} {o : Oper} {Q : Exit → Act → World → Prop} {Kc : Act → World → Prop} {W : World} {A : Option Addr} {c : Nat} {l : List Int} {ok : Nat → Prop} {N' : Tmp} (hd : o.dst = some N')
    (hV : Kd.V (Kd.int .u8) 5 W base ok (.slice A l.length c) l) (hfr : ∀ k, W.heap.size ≤ k → ok k) (hr : (execOp a.eval o).run Try.prog W = .ok (.value (.slice (some ⟨W.heap.size, 0, none⟩) 1 1)) (W.alloc (.cells [Value.slice A l.length c].toArray 28))) (hB : Below w.heap.size w W)
    (h : ∀ v1 w1, Kd.N (Kd.slice 5 (Kd.int .u8)) 28 w1 W.heap.size ok v1 [l] → Below W.heap.size W w1 → W.grownBy w1 none → (∃ b, v1.ownBlock = some b ∧ W.heap.size ≤ b) → Kc (a.put o.dst v1) w1) (hw : Region.wanted o (yielded ops a.tmps) = true := by rfl) :
    if Region.wanted o (yielded ops a.tmps) = true then Oper.wp Try.prog o a W Kc Q else Kc (a.put o.dst undef) W :=
  Kd.N_lit_step (Kd.slice 5 (Kd.int .u8)) (w0 := W) W.heap.size 28 hw hd (xs := [l]) (inner := [.slice A l.length c]) (ok := ok) (okp := ok) hr
    (Reps.one (show Kd.FK (Kd.slice 5 (Kd.int .u8)) _ _ l [.slice A l.length c] from Kd.FK_slice_mk (Kd.V_reads' hV).2.1 (Kd.V_F hV)) (Reps.none _ _)) (fun _ hk => hk) (hfr _ (Nat.le_refl _)) (Below.refl _ _) (Nat.le_refl _) (by simp) h
section
variable {α : Type} {d : Kd α} {e base : Nat} {ok : Nat → Prop} {W w1 w : World} {v u : Value} {xs : List α} {β : Type} {d2 : Kd β} {e2 : Nat} {ok2 : Nat → Prop} {ys : List β} {g : Nat} {o : Obj}
theorem vE (h : Aside0 (Kd.V d e W base ok v xs)) (n : Kd.N d2 e2 w1 W.heap.size ok2 u ys) (hb : Below W.heap.size W w1) : Aside0 (Kd.V d e w1 base (fun k => ok k ∧ some k ≠ u.ownBlock) v xs) := ⟨Kd.V_elder' h.out (Kd.N_base n) hb⟩
theorem nE (h : Aside0 (Kd.N d e W base ok v xs)) (n : Kd.N d2 e2 w1 W.heap.size ok2 u ys) (hb : Below W.heap.size W w1) : Aside0 (Kd.N d e w1 base (fun k => ok k ∧ some k ≠ u.ownBlock) v xs) := ⟨Kd.N_elder' h.out (Kd.N_base n) hb⟩
theorem vB (h : Aside0 (Kd.V d e W base ok v xs)) (hb : Below W.heap.size W w1) : Aside0 (Kd.V d e w1 base ok v xs) := ⟨Kd.V_below h.out hb⟩
theorem nB (h : Aside0 (Kd.N d e W base ok v xs)) (hb : Below W.heap.size W w1) : Aside0 (Kd.N d e w1 base ok v xs) := ⟨Kd.N_below h.out hb⟩
theorem rB (h : Aside0 (Kd.R d e W base ok v xs)) (hb : Below W.heap.size W w1) : Aside0 (Kd.R d e w1 base ok v xs) := ⟨Kd.R_below h.out hb⟩
theorem bB (h : Aside0 (W.heap[g]? = some o)) (hb : Below W.heap.size W w1) : Aside0 (w1.heap[g]? = some o) := ⟨blk_below h.out hb⟩
theorem hB (h : Aside0 (Below w.heap.size w W)) (hb : Below W.heap.size W w1) : Aside0 (Below w.heap.size w w1) := ⟨below_step h.out hb⟩
theorem nL (n : Kd.N d e w1 W.heap.size ok v xs) (h : Aside0 (Below w.heap.size w W)) : Aside0 (Kd.N d e w1 w.heap.size ok v xs) := ⟨Kd.N_lower n (below_size h.out)⟩
theorem fN (h : Aside0 (Kd.N d e W base ok v xs)) {k : Nat} (hk : W.heap.size ≤ k) : some k ≠ v.ownBlock := Kd.fresh' (Kd.N_lt h.out) k hk
theorem fB (h : Aside0 (W.heap[g]? = some o)) {k : Nat} (hk : W.heap.size ≤ k) : k ≠ g := Kd.freshB h.out k hk
theorem fW (h : Aside0 (Below w.heap.size w W)) {k : Nat} (hk : W.heap.size ≤ k) : w.heap.size ≤ k := Nat.le_trans (below_size h.out) hk
end
abbrev VN (w' w : World) := Kd.N (Kd.slice 5 (Kd.int .u8)) 28 w' w.heap.size
abbrev VV (w' w : World) := Kd.V (Kd.int .u8) 5 w' w.heap.size
theorem sA {α : Type} (l : List α) (i : Nat) (a : α) : l.toArray.setIfInBounds i a = (l.set i a).toArray := List.setIfInBounds_toArray l i a
theorem sZ {α : Type} (x : α) (xs : List α) (a : α) : (x :: xs).set 0 a = a :: xs := rfl
theorem sS {α : Type} (x : α) (xs : List α) (i : Nat) (a : α) : (x :: xs).set (i + 1) a = x :: xs.set i a := rfl
abbrev Y : Bool := true
abbrev Z : Bool := false
@[reducible] def tq0 : Array Bool := #[Y,Y,Y,Y,Y,Y,Y,Y,Y,Y,Y,Y,Y,Y,Y,Y,Y,Y,Y,Y,Y,Y,Y,Y,Y,Y,Y,Y,Y,Y,Y,Y,Y,Y,Y,Y,Y,Y,Y,Y,Y,Y]
@[reducible] def tq1 : Array Bool := #[Y,Y,Y,Y,Y,Y,Y,Y,Y,Y,Y,Y,Y,Y,Y,Y,Y,Y,Y,Y,Y,Y,Y,Y,Y,Y,Y,Y,Y,Y,Y,Y,Y,Y,Y,Y,Y,Y,Y,Y,Y,Z]
@[reducible] def tq2 : Array Bool := #[Y,Y,Y,Y,Y,Y,Y,Y,Y,Y,Y,Y,Y,Y,Y,Y,Y,Y,Y,Y,Y,Y,Y,Y,Y,Y,Y,Y,Y,Y,Y,Y,Y,Y,Y,Y,Y,Y,Y,Y,Y]
@[reducible] def tq3 : Array Bool := #[Y,Y,Y,Y,Y,Y,Y,Y,Y,Y,Y,Y,Y,Y,Y,Y,Y,Y,Y,Y,Y,Y,Y,Y,Y,Y,Y,Y,Y,Y,Y,Y,Y,Y,Y,Y,Y,Y,Y,Y,Z,Z]
@[reducible] def tq4 : Array Bool := #[Y,Y,Y,Y,Y,Y,Y,Y,Y,Y,Y,Y,Y,Y,Y,Y,Y,Y,Y,Y,Y,Y,Y,Y,Y,Y,Y,Y,Y,Y,Y,Y,Y,Y,Y,Y,Y,Y,Y,Y,Z]
@[reducible] def tq5 : Array Bool := #[Y,Y,Y,Y,Y,Y,Y,Y,Y,Y,Y,Y,Y,Y,Y,Y,Y,Y,Y,Y,Y,Y,Y,Y,Y,Y,Y,Y,Y,Y,Y,Y,Y,Y,Y,Y,Y,Y,Y,Z,Z,Z]
@[reducible] def tq6 : Array Bool := #[Y,Y,Y,Y,Y,Y,Y,Y,Y,Y,Y,Y,Y,Y,Y,Y,Y,Y,Y,Y,Y,Y,Y,Y,Y,Y,Y,Y,Y,Y,Y,Y,Y,Y,Y,Y,Y,Y,Y,Z,Z]
@[reducible] def tq7 : Array Bool := #[Y,Y,Y,Y,Y,Y,Y,Y,Y,Y,Y,Y,Y,Y,Y,Y,Y,Y,Y,Y,Y,Y,Y,Y,Y,Y,Y,Y,Y,Y,Y,Y,Y,Y,Y,Y,Y,Z,Y,Z,Z,Z]
@[reducible] def tq8 : Array Bool := #[Y,Y,Y,Y,Y,Y,Y,Y,Y,Y,Y,Y,Y,Y,Y,Y,Y,Y,Y,Y,Y,Y,Y,Y,Y,Y,Y,Y,Y,Y,Y,Y,Y,Y,Y,Y,Y,Z,Y,Z,Z]
@[reducible] def tq9 : Array Bool := #[Y,Y,Y,Y,Y,Y,Y,Y,Y,Y,Y,Y,Y,Y,Y,Y,Y,Y,Y,Y,Y,Y,Y,Y,Y,Y,Y,Y,Y,Y,Y,Y,Y,Y,Y,Z,Y,Z,Y,Z,Z]
@[reducible] def tq10 : Array Bool := #[Y,Y,Y,Y,Y,Y,Y,Y,Y,Y,Y,Y,Y,Y,Y,Y,Y,Y,Y,Y,Y,Y,Y,Y,Y,Y,Y,Y,Y,Y,Y,Y,Y,Y,Y,Y,Z,Z,Y,Z,Z,Z]
@[reducible] def tq11 : Array Bool := #[Y,Y,Y,Y,Y,Y,Y,Y,Y,Y,Y,Y,Y,Y,Y,Y,Y,Y,Y,Y,Y,Y,Y,Y,Y,Y,Y,Y,Y,Y,Y,Y,Y,Y,Z,Y,Z,Z,Y,Z,Z,Z]
@[reducible] def tq12 : Array Bool := #[Y,Y,Y,Y,Y,Y,Y,Y,Y,Y,Y,Y,Y,Y,Y,Y,Y,Y,Y,Y,Y,Y,Y,Y,Y,Y,Y,Y,Y,Y,Y,Y,Y,Y,Y,Z,Y,Z,Z,Z,Z]
@[reducible] def tq13 : Array Bool := #[Y,Y,Y,Y,Y,Y,Y,Y,Y,Y,Y,Y,Y,Y,Y,Y,Y,Y,Y,Y,Y,Y,Y,Y,Y,Y,Y,Y,Y,Y,Y,Y,Y,Y,Z,Y,Z,Z,Z,Z,Z,Z]
@[reducible] def tq14 : Array Bool := #[Y,Y,Y,Y,Y,Y,Y,Y,Y,Y,Y,Y,Y,Y,Y,Y,Y,Y,Y,Y,Y,Y,Y,Y,Y,Y,Y,Y,Y,Y,Y,Y,Y,Y,Y,Z,Z,Z,Z,Z,Z]
@[reducible] def tq15 : Array Bool := #[Y,Y,Y,Y,Y,Y,Y,Y,Y,Y,Y,Y,Y,Y,Y,Y,Y,Y,Y,Y,Y,Y,Y,Y,Y,Y,Y,Y,Y,Y,Y,Y,Y,Y,Z,Z,Z,Z,Z,Z,Z,Z]
@[reducible] def tq16 : Array Bool := #[Y,Y,Y,Y,Y,Y,Y,Y,Y,Y,Y,Y,Y,Y,Y,Y,Y,Y,Y,Y,Y,Y,Y,Y,Y,Y,Y,Y,Y,Y,Y,Y,Y,Y,Z,Z,Z,Z,Z,Z,Z]
@[reducible] def tq17 : Array Bool := #[Y,Y,Y,Y,Y,Y,Y,Y,Y,Y,Y,Y,Y,Y,Y,Y,Y,Y,Y,Y,Y,Y,Y,Y,Y,Y,Y,Y,Y,Y,Y,Y,Y,Z,Z,Z,Z,Z,Z,Z,Z,Z]
@[reducible] def tq18 : Array Bool := #[Y,Y,Y,Y,Y,Y,Y,Y,Y,Y,Y,Y,Y,Y,Y,Y,Y,Y,Y,Y,Y,Y,Y,Y,Y,Y,Y,Y,Y,Y,Y,Y,Y,Z,Z,Z,Z,Z,Z,Z,Z]
@[reducible] def tq19 : Array Bool := #[Y,Y,Y,Y,Y,Y,Y,Y,Y,Y,Y,Y,Y,Y,Y,Y,Y,Y,Y,Y,Y,Y,Y,Y,Y,Y,Y,Y,Y,Y,Y,Y,Z,Z,Z,Z,Z,Z,Z,Z,Z,Z]
@[reducible] def tq20 : Array Bool := #[Y,Y,Y,Y,Y,Y,Y,Y,Y,Y,Y,Y,Y,Y,Y,Y,Y,Y,Y,Y,Y,Y,Y,Y,Y,Y,Y,Y,Y,Y,Y,Y,Z,Z,Z,Z,Z,Z,Z,Z,Z]
@[reducible] def tq21 : Array Bool := #[Y,Y,Y,Y,Y,Y,Y,Y,Y,Y,Y,Y,Y,Y,Y,Y,Y,Y,Y,Y,Y,Y,Y,Y,Y,Y,Y,Y,Y,Y,Z,Y,Z,Z,Z,Z,Z,Z,Z,Z,Z]
@[reducible] def tq22 : Array Bool := #[Y,Y,Y,Y,Y,Y,Y,Y,Y,Y,Y,Y,Y,Y,Y,Y,Y,Y,Y,Y,Y,Y,Y,Y,Y,Y,Y,Y,Y,Y,Y,Z,Z,Z,Z,Z,Z,Z,Z,Z,Z,Z]
@[reducible] def tq23 : Array Bool := #[Y,Y,Y,Y,Y,Y,Y,Y,Y,Y,Y,Y,Y,Y,Y,Y,Y,Y,Y,Y,Y,Y,Y,Y,Y,Z,Y,Y,Y,Y,Z,Y,Z,Z,Z,Z,Z,Z,Z,Z,Z]
@[reducible] def tq24 : Array Bool := #[Y,Y,Y,Y,Y,Y,Y,Y,Y,Y,Y,Y,Y,Y,Y,Y,Y,Y,Y,Y,Y,Y,Y,Y,Y,Y,Y,Y,Z,Y,Y,Z,Z,Z,Z,Z,Z,Z,Z,Z,Z,Z]
@[reducible] def tq25 : Array Bool := #[Y,Y,Y,Y,Y,Y,Y,Y,Y,Y,Y,Y,Y,Y,Y,Y,Y,Y,Y,Y,Y,Y,Y,Y,Y,Y,Y,Y,Y,Z,Z,Y,Z,Z,Z,Z,Z,Z,Z,Z,Z]
@[reducible] def tq26 : Array Bool := #[Y,Y,Y,Y,Y,Y,Y,Y,Y,Y,Y,Y,Y,Y,Y,Y,Y,Y,Y,Y,Y,Y,Y,Y,Z,Z,Y,Y,Y,Y,Z,Y,Z,Z,Z,Z,Z,Z,Z,Z,Z]
@[reducible] def tq27 : Array Bool := #[Y,Y,Y,Y,Y,Y,Y,Y,Y,Y,Y,Y,Y,Y,Y,Y,Y,Y,Y,Y,Y,Y,Y,Y,Y,Z,Y,Y,Y,Z,Z,Y,Z,Z,Z,Z,Z,Z,Z,Z,Z]
@[reducible] def tq28 : Array Bool := #[Y,Y,Y,Y,Y,Y,Y,Y,Y,Y,Y,Y,Y,Y,Y,Y,Y,Y,Y,Y,Y,Y,Y,Y,Y,Y,Y,Z,Z,Y,Y,Z,Z,Z,Z,Z,Z,Z,Z,Z,Z,Z]
@[reducible] def tq29 : Array Bool := #[Y,Y,Y,Y,Y,Y,Y,Y,Y,Y,Y,Y,Y,Y,Y,Y,Y,Y,Y,Y,Y,Y,Y,Y,Z,Z,Y,Y,Y,Z,Z,Y,Z,Z,Z,Z,Z,Z,Z,Z,Z]
@[reducible] def tq30 : Array Bool := #[Y,Y,Y,Y,Y,Y,Y,Y,Y,Y,Y,Y,Y,Y,Y,Y,Y,Y,Y,Y,Y,Y,Y,Y,Y,Y,Z,Z,Z,Y,Y,Z,Z,Z,Z,Z,Z,Z,Z,Z,Z,Z]
@[reducible] def tq31 : Array Bool := #[Y,Y,Y,Y,Y,Y,Y,Y,Y,Y,Y,Y,Y,Y,Y,Y,Y,Y,Y,Y,Y,Y,Y,Y,Z,Z,Y,Y,Y,Z,Z,Z,Z,Z,Z,Z,Z,Z,Z,Z,Z]
@[reducible] def tq32 : Array Bool := #[Y,Y,Y,Y,Y,Y,Y,Y,Y,Y,Y,Y,Y,Y,Y,Y,Y,Y,Y,Y,Y,Y,Y,Y,Y,Y,Z,Z,Z,Y,Z,Z,Z,Z,Z,Z,Z,Z,Z,Z,Z,Z]
@[reducible] def tq33 : Array Bool := #[Y,Y,Y,Y,Y,Y,Y,Y,Y,Y,Y,Y,Y,Y,Y,Y,Y,Y,Y,Z,Y,Y,Y,Y,Y,Y,Z,Z,Z,Y,Z,Z,Z,Z,Z,Z,Z,Z,Z,Z,Z,Z]
@[reducible] def tq34 : Array Bool := #[Y,Y,Y,Y,Y,Y,Y,Y,Y,Y,Y,Y,Y,Y,Y,Y,Y,Y,Y,Y,Y,Y,Y,Y,Z,Z,Y,Y,Z,Z,Z,Z,Z,Z,Z,Z,Z,Z,Z,Z,Z]
@[reducible] def tq35 : Array Bool := #[Y,Y,Y,Y,Y,Y,Y,Y,Y,Y,Y,Y,Y,Y,Y,Y,Y,Y,Y,Z,Y,Y,Y,Y,Y,Y,Z,Z,Z,Z,Z,Z,Z,Z,Z,Z,Z,Z,Z,Z,Z,Z]
@[reducible] def tq36 : Array Bool := #[Y,Y,Y,Y,Y,Y,Y,Y,Y,Y,Y,Y,Y,Y,Y,Y,Y,Y,Y,Y,Y,Y,Y,Y,Z,Z,Y,Z,Z,Z,Z,Z,Z,Z,Z,Z,Z,Z,Z,Z,Z]
@[reducible] def tq37 : Array Bool := #[Y,Y,Y,Y,Y,Y,Y,Y,Y,Y,Y,Y,Y,Y,Y,Y,Y,Y,Y,Z,Y,Y,Y,Y,Y,Z,Z,Z,Z,Z,Z,Z,Z,Z,Z,Z,Z,Z,Z,Z,Z,Z]
@[reducible] def tq38 : Array Bool := #[Y,Y,Y,Y,Y,Y,Y,Y,Y,Y,Y,Y,Y,Y,Y,Y,Y,Y,Y,Y,Y,Y,Y,Y,Z,Z,Z,Z,Z,Z,Z,Z,Z,Z,Z,Z,Z,Z,Z,Z,Z]
@[reducible] def tq39 : Array Bool := #[Y,Y,Y,Y,Y,Y,Y,Y,Y,Y,Y,Y,Y,Y,Y,Y,Y,Y,Y,Z,Y,Y,Y,Y,Z,Z,Z,Z,Z,Z,Z,Z,Z,Z,Z,Z,Z,Z,Z,Z,Z,Z]
@[reducible] def tq40 : Array Bool := #[Y,Y,Y,Y,Y,Y,Y,Y,Y,Y,Y,Y,Y,Y,Y,Y,Y,Y,Y,Y,Y,Y,Y,Z,Z,Z,Z,Z,Z,Z,Z,Z,Z,Z,Z,Z,Z,Z,Z,Z,Z]
@[reducible] def tq41 : Array Bool := #[Y,Y,Y,Y,Y,Y,Y,Y,Y,Y,Y,Y,Y,Y,Y,Y,Y,Y,Y,Z,Y,Y,Y,Z,Z,Z,Z,Z,Z,Z,Z,Z,Z,Z,Z,Z,Z,Z,Z,Z,Z,Z]
@[reducible] def tq42 : Array Bool := #[Y,Y,Y,Y,Y,Y,Y,Y,Y,Y,Y,Y,Y,Y,Y,Y,Y,Y,Y,Y,Y,Y,Z,Z,Z,Z,Z,Z,Z,Z,Z,Z,Z,Z,Z,Z,Z,Z,Z,Z,Z]
@[reducible] def tq43 : Array Bool := #[Y,Y,Y,Y,Y,Y,Y,Y,Y,Y,Y,Y,Y,Y,Y,Y,Y,Y,Y,Z,Y,Y,Z,Z,Z,Z,Z,Z,Z,Z,Z,Z,Z,Z,Z,Z,Z,Z,Z,Z,Z,Z]
@[reducible] def tq44 : Array Bool := #[Y,Y,Y,Y,Y,Y,Y,Y,Y,Y,Y,Y,Y,Y,Y,Y,Y,Y,Y,Y,Y,Z,Z,Z,Z,Z,Z,Z,Z,Z,Z,Z,Z,Z,Z,Z,Z,Z,Z,Z,Z]
@[reducible] def tq45 : Array Bool := #[Y,Y,Y,Y,Y,Y,Y,Y,Y,Y,Y,Y,Y,Y,Y,Y,Y,Y,Y,Z,Y,Z,Z,Z,Z,Z,Z,Z,Z,Z,Z,Z,Z,Z,Z,Z,Z,Z,Z,Z,Z,Z]
@[reducible] def tq46 : Array Bool := #[Y,Y,Y,Y,Y,Y,Y,Y,Y,Y,Y,Y,Y,Y,Y,Y,Y,Y,Y,Y,Z,Z,Z,Z,Z,Z,Z,Z,Z,Z,Z,Z,Z,Z,Z,Z,Z,Z,Z,Z,Z]
@[reducible] def tq47 : Array Bool := #[Y,Y,Y,Y,Y,Y,Y,Y,Y,Y,Y,Y,Y,Y,Y,Y,Y,Y,Y,Z,Z,Z,Z,Z,Z,Z,Z,Z,Z,Z,Z,Z,Z,Z,Z,Z,Z,Z,Z,Z,Z,Z]
@[reducible] def tq48 : Array Bool := #[Y,Y,Y,Y,Y,Y,Y,Y,Y,Y,Y,Y,Y,Y,Y,Y,Y,Y,Y,Z,Z,Z,Z,Z,Z,Z,Z,Z,Z,Z,Z,Z,Z,Z,Z,Z,Z,Z,Z,Z,Z]
@[reducible] def tq49 : Array Bool := #[Y,Y,Y,Y,Y,Y,Y,Y,Y,Y,Y,Y,Y,Y,Y,Y,Y,Y,Z,Z,Z,Z,Z,Z,Z,Z,Z,Z,Z,Z,Z,Z,Z,Z,Z,Z,Z,Z,Z,Z,Z,Z]
@[reducible] def tq50 : Array Bool := #[Y,Y,Y,Y,Y,Y,Y,Y,Y,Y,Y,Y,Y,Y,Y,Y,Y,Y,Z,Z,Z,Z,Z,Z,Z,Z,Z,Z,Z,Z,Z,Z,Z,Z,Z,Z,Z,Z,Z,Z,Z]
@[reducible] def tq51 : Array Bool := #[Y,Y,Y,Y,Y,Y,Y,Y,Y,Y,Y,Y,Y,Y,Y,Y,Y,Z,Z,Z,Z,Z,Z,Z,Z,Z,Z,Z,Z,Z,Z,Z,Z,Z,Z,Z,Z,Z,Z,Z,Z,Z]
@[reducible] def tq52 : Array Bool := #[Y,Y,Y,Y,Y,Y,Y,Y,Y,Y,Y,Y,Y,Y,Y,Y,Y,Z,Z,Z,Z,Z,Z,Z,Z,Z,Z,Z,Z,Z,Z,Z,Z,Z,Z,Z,Z,Z,Z,Z,Z]
@[reducible] def tq53 : Array Bool := #[Y,Y,Y,Y,Y,Y,Y,Y,Y,Y,Y,Y,Y,Y,Y,Z,Y,Z,Z,Z,Z,Z,Z,Z,Z,Z,Z,Z,Z,Z,Z,Z,Z,Z,Z,Z,Z,Z,Z,Z,Z]
@[reducible] def tq54 : Array Bool := #[Y,Y,Y,Y,Y,Y,Y,Y,Y,Y,Y,Y,Y,Y,Y,Y,Z,Z,Z,Z,Z,Z,Z,Z,Z,Z,Z,Z,Z,Z,Z,Z,Z,Z,Z,Z,Z,Z,Z,Z,Z,Z]
@[reducible] def tq55 : Array Bool := #[Y,Y,Y,Y,Y,Y,Z,Y,Y,Y,Y,Y,Y,Y,Y,Z,Y,Z,Z,Z,Z,Z,Z,Z,Z,Z,Z,Z,Z,Z,Z,Z,Z,Z,Z,Z,Z,Z,Z,Z,Z]
@[reducible] def tq56 : Array Bool := #[Y,Y,Y,Y,Y,Y,Y,Y,Y,Y,Y,Y,Y,Y,Z,Z,Y,Z,Z,Z,Z,Z,Z,Z,Z,Z,Z,Z,Z,Z,Z,Z,Z,Z,Z,Z,Z,Z,Z,Z,Z]
@[reducible] def tq57 : Array Bool := #[Y,Y,Y,Y,Y,Y,Y,Y,Y,Y,Y,Y,Y,Y,Z,Y,Z,Z,Z,Z,Z,Z,Z,Z,Z,Z,Z,Z,Z,Z,Z,Z,Z,Z,Z,Z,Z,Z,Z,Z,Z,Z]
@[reducible] def tq58 : Array Bool := #[Y,Y,Y,Y,Y,Z,Z,Y,Y,Y,Y,Y,Y,Y,Y,Z,Y,Z,Z,Z,Z,Z,Z,Z,Z,Z,Z,Z,Z,Z,Z,Z,Z,Z,Z,Z,Z,Z,Z,Z,Z]
@[reducible] def tq59 : Array Bool := #[Y,Y,Y,Y,Y,Y,Z,Y,Y,Y,Y,Y,Y,Y,Z,Z,Y,Z,Z,Z,Z,Z,Z,Z,Z,Z,Z,Z,Z,Z,Z,Z,Z,Z,Z,Z,Z,Z,Z,Z,Z]
@[reducible] def tq60 : Array Bool := #[Y,Y,Y,Y,Y,Y,Y,Y,Y,Y,Y,Y,Y,Z,Z,Y,Z,Z,Z,Z,Z,Z,Z,Z,Z,Z,Z,Z,Z,Z,Z,Z,Z,Z,Z,Z,Z,Z,Z,Z,Z,Z]
@[reducible] def tq61 : Array Bool := #[Y,Y,Z,Y,Y,Y,Y,Y,Y,Y,Y,Y,Y,Z,Z,Y,Z,Z,Z,Z,Z,Z,Z,Z,Z,Z,Z,Z,Z,Z,Z,Z,Z,Z,Z,Z,Z,Z,Z,Z,Z,Z]
@[reducible] def tq62 : Array Bool := #[Y,Y,Y,Y,Y,Z,Z,Y,Y,Y,Y,Y,Y,Y,Z,Z,Y,Z,Z,Z,Z,Z,Z,Z,Z,Z,Z,Z,Z,Z,Z,Z,Z,Z,Z,Z,Z,Z,Z,Z,Z]
@[reducible] def tq63 : Array Bool := #[Y,Z,Y,Y,Y,Z,Z,Y,Y,Y,Y,Y,Y,Y,Z,Z,Y,Z,Z,Z,Z,Z,Z,Z,Z,Z,Z,Z,Z,Z,Z,Z,Z,Z,Z,Z,Z,Z,Z,Z,Z]
@[reducible] def tq64 : Array Bool := #[Y,Y,Z,Y,Y,Y,Y,Y,Y,Y,Y,Y,Y,Z,Z,Z,Z,Z,Z,Z,Z,Z,Z,Z,Z,Z,Z,Z,Z,Z,Z,Z,Z,Z,Z,Z,Z,Z,Z,Z,Z,Z]
@[reducible] def tq65 : Array Bool := #[Z,Z,Y,Y,Y,Z,Z,Y,Y,Y,Y,Y,Y,Y,Z,Z,Y,Z,Z,Z,Z,Z,Z,Z,Z,Z,Z,Z,Z,Z,Z,Z,Z,Z,Z,Z,Z,Z,Z,Z,Z]
@[reducible] def tq66 : Array Bool := #[Y,Y,Z,Y,Y,Y,Y,Y,Y,Y,Y,Y,Z,Z,Z,Z,Z,Z,Z,Z,Z,Z,Z,Z,Z,Z,Z,Z,Z,Z,Z,Z,Z,Z,Z,Z,Z,Z,Z,Z,Z,Z]
@[reducible] def tq67 : Array Bool := #[Z,Z,Y,Y,Y,Z,Z,Y,Y,Y,Y,Y,Y,Y,Z,Z,Z,Z,Z,Z,Z,Z,Z,Z,Z,Z,Z,Z,Z,Z,Z,Z,Z,Z,Z,Z,Z,Z,Z,Z,Z]
@[reducible] def tq68 : Array Bool := #[Y,Y,Z,Y,Y,Y,Y,Y,Y,Y,Y,Z,Z,Z,Z,Z,Z,Z,Z,Z,Z,Z,Z,Z,Z,Z,Z,Z,Z,Z,Z,Z,Z,Z,Z,Z,Z,Z,Z,Z,Z,Z]
@[reducible] def tq69 : Array Bool := #[Z,Z,Y,Y,Y,Z,Z,Y,Y,Y,Y,Y,Y,Z,Z,Z,Z,Z,Z,Z,Z,Z,Z,Z,Z,Z,Z,Z,Z,Z,Z,Z,Z,Z,Z,Z,Z,Z,Z,Z,Z]
@[reducible] def tq70 : Array Bool := #[Y,Y,Z,Y,Y,Y,Y,Y,Y,Y,Z,Z,Z,Z,Z,Z,Z,Z,Z,Z,Z,Z,Z,Z,Z,Z,Z,Z,Z,Z,Z,Z,Z,Z,Z,Z,Z,Z,Z,Z,Z,Z]
@[reducible] def tq71 : Array Bool := #[Z,Z,Y,Y,Y,Z,Z,Y,Y,Y,Y,Y,Z,Z,Z,Z,Z,Z,Z,Z,Z,Z,Z,Z,Z,Z,Z,Z,Z,Z,Z,Z,Z,Z,Z,Z,Z,Z,Z,Z,Z]
@[reducible] def tq72 : Array Bool := #[Y,Y,Z,Y,Y,Y,Y,Y,Y,Z,Z,Z,Z,Z,Z,Z,Z,Z,Z,Z,Z,Z,Z,Z,Z,Z,Z,Z,Z,Z,Z,Z,Z,Z,Z,Z,Z,Z,Z,Z,Z,Z]
@[reducible] def tq73 : Array Bool := #[Z,Z,Y,Y,Y,Z,Z,Y,Y,Y,Y,Z,Z,Z,Z,Z,Z,Z,Z,Z,Z,Z,Z,Z,Z,Z,Z,Z,Z,Z,Z,Z,Z,Z,Z,Z,Z,Z,Z,Z,Z]
@[reducible] def tq74 : Array Bool := #[Y,Y,Z,Y,Y,Y,Y,Y,Z,Z,Z,Z,Z,Z,Z,Z,Z,Z,Z,Z,Z,Z,Z,Z,Z,Z,Z,Z,Z,Z,Z,Z,Z,Z,Z,Z,Z,Z,Z,Z,Z,Z]
@[reducible] def tq75 : Array Bool := #[Z,Z,Y,Y,Y,Z,Z,Y,Y,Y,Z,Z,Z,Z,Z,Z,Z,Z,Z,Z,Z,Z,Z,Z,Z,Z,Z,Z,Z,Z,Z,Z,Z,Z,Z,Z,Z,Z,Z,Z,Z]
@[reducible] def tq76 : Array Bool := #[Y,Y,Z,Y,Y,Y,Y,Z,Z,Z,Z,Z,Z,Z,Z,Z,Z,Z,Z,Z,Z,Z,Z,Z,Z,Z,Z,Z,Z,Z,Z,Z,Z,Z,Z,Z,Z,Z,Z,Z,Z,Z]
@[reducible] def tq77 : Array Bool := #[Z,Z,Y,Y,Y,Z,Z,Y,Y,Z,Z,Z,Z,Z,Z,Z,Z,Z,Z,Z,Z,Z,Z,Z,Z,Z,Z,Z,Z,Z,Z,Z,Z,Z,Z,Z,Z,Z,Z,Z,Z]
@[reducible] def tq78 : Array Bool := #[Y,Y,Z,Y,Y,Y,Z,Z,Z,Z,Z,Z,Z,Z,Z,Z,Z,Z,Z,Z,Z,Z,Z,Z,Z,Z,Z,Z,Z,Z,Z,Z,Z,Z,Z,Z,Z,Z,Z,Z,Z,Z]
@[reducible] def tq79 : Array Bool := #[Z,Z,Y,Y,Y,Z,Z,Y,Z,Z,Z,Z,Z,Z,Z,Z,Z,Z,Z,Z,Z,Z,Z,Z,Z,Z,Z,Z,Z,Z,Z,Z,Z,Z,Z,Z,Z,Z,Z,Z,Z]
@[reducible] def tq80 : Array Bool := #[Y,Y,Z,Y,Y,Z,Z,Z,Z,Z,Z,Z,Z,Z,Z,Z,Z,Z,Z,Z,Z,Z,Z,Z,Z,Z,Z,Z,Z,Z,Z,Z,Z,Z,Z,Z,Z,Z,Z,Z,Z,Z]
@[reducible] def tq81 : Array Bool := #[Z,Z,Y,Y,Y,Z,Z,Z,Z,Z,Z,Z,Z,Z,Z,Z,Z,Z,Z,Z,Z,Z,Z,Z,Z,Z,Z,Z,Z,Z,Z,Z,Z,Z,Z,Z,Z,Z,Z,Z,Z]
@[reducible] def tq82 : Array Bool := #[Y,Y,Z,Y,Z,Z,Z,Z,Z,Z,Z,Z,Z,Z,Z,Z,Z,Z,Z,Z,Z,Z,Z,Z,Z,Z,Z,Z,Z,Z,Z,Z,Z,Z,Z,Z,Z,Z,Z,Z,Z,Z]
@[reducible] def tq83 : Array Bool := #[Z,Z,Y,Y,Z,Z,Z,Z,Z,Z,Z,Z,Z,Z,Z,Z,Z,Z,Z,Z,Z,Z,Z,Z,Z,Z,Z,Z,Z,Z,Z,Z,Z,Z,Z,Z,Z,Z,Z,Z,Z]
@[reducible] def tq84 : Array Bool := #[Y,Y,Z,Z,Z,Z,Z,Z,Z,Z,Z,Z,Z,Z,Z,Z,Z,Z,Z,Z,Z,Z,Z,Z,Z,Z,Z,Z,Z,Z,Z,Z,Z,Z,Z,Z,Z,Z,Z,Z,Z,Z]
@[reducible] def tq85 : Array Bool := #[Z,Z,Y,Z,Z,Z,Z,Z,Z,Z,Z,Z,Z,Z,Z,Z,Z,Z,Z,Z,Z,Z,Z,Z,Z,Z,Z,Z,Z,Z,Z,Z,Z,Z,Z,Z,Z,Z,Z,Z,Z]
@[reducible] def tq86 : Array Bool := #[Y,Z,Z,Z,Z,Z,Z,Z,Z,Z,Z,Z,Z,Z,Z,Z,Z,Z,Z,Z,Z,Z,Z,Z,Z,Z,Z,Z,Z,Z,Z,Z,Z,Z,Z,Z,Z,Z,Z,Z,Z,Z]
@[reducible] def tq87 : Array Bool := #[Z,Z,Z,Z,Z,Z,Z,Z,Z,Z,Z,Z,Z,Z,Z,Z,Z,Z,Z,Z,Z,Z,Z,Z,Z,Z,Z,Z,Z,Z,Z,Z,Z,Z,Z,Z,Z,Z,Z,Z,Z,Z]
@[reducible] def tq88 : Array Bool := #[Z,Z,Z,Z,Z,Z,Z,Z,Z,Z,Z,Z,Z,Z,Z,Z,Z,Z,Z,Z,Z,Z,Z,Z,Z,Z,Z,Z,Z,Z,Z,Z,Z,Z,Z,Z,Z,Z,Z,Z,Z]
set_option maxHeartbeats 8000000 in
set_option maxRecDepth 100000 in
theorem decklelaw02_CrcParts.calls (k : Nat) (a0_0 : (List Int)) (P1_ : Nat → Prop) (A1 : Option Addr) (c1 : Nat) (l1 : List Int) (a2 : Int) (a3 : Int) (r : Bool) (w : World) (hs1 : Kd.V (Kd.int .u8) 5 w w.heap.size (fun k_ => P1_ k_) (.slice A1 l1.length c1) l1) (h : decklelaw02_CrcParts.f k a0_0 l1 a2 a3 = some r) :
  Calls Try.prog 5 #[.agg (tabC a0_0), .slice A1 l1.length c1, .int .i64 a2, .int .i64 a3] w fun e w' => e = .returned (.bool r) ∧ Below w.heap.size w w' := by
 have hu24 := Try.underlying24
 have HO1 := Aside0.mk (show Kd.V (Kd.int .u8) 5 w w.heap.size (fun k_ => (P1_ k_ ∨ w.heap.size ≤ k_)) (.slice A1 l1.length c1) l1 from Kd.V_mono hs1 (fun k_ hk => .inl hk))
 have HB := Aside0.mk (Below.refl w.heap.size w)
 have H : ((decklelaw02_small.f k).bind fun t195 => (if (l1.length : Int) > 1000 then (decklelaw02_CrcParts.j0 k l1 a2 a3 t195 true a0_0) else (if a2 < 0 then (decklelaw02_CrcParts.j0 k l1 a2 a3 t195 true a0_0) else (if a3 < a2 then (decklelaw02_CrcParts.j0 k l1 a2 a3 t195 true a0_0) else (decklelaw02_CrcParts.j0 k l1 a2 a3 t195 (decide (a3 > (l1.length : Int))) a0_0))))) = some r := h
 clear h
 replace H := Option.bind_eq_some_iff.mp H
 obtain ⟨t195, A50, H⟩ := H
 replace H : (if (l1.length : Int) > 1000 then (decklelaw02_CrcParts.j0 k l1 a2 a3 t195 true a0_0) else (if a2 < 0 then (decklelaw02_CrcParts.j0 k l1 a2 a3 t195 true a0_0) else (if a3 < a2 then (decklelaw02_CrcParts.j0 k l1 a2 a3 t195 true a0_0) else (decklelaw02_CrcParts.j0 k l1 a2 a3 t195 (decide (a3 > (l1.length : Int))) a0_0)))) = some r := H
 have A5 := Aside0.mk A50
 clear A50
 have HC6 := Aside0.mk H
 clear H
 go_enter Try.func5, Try.ntmps5
 go_upto_region 2 with (first | ((with_reducible refine gate_load24 (x := .tmp _) rfl ?_); (try (refine gate_guard (by rfl) ?_; dsimp only)); refine tab_load rfl rfl rfl (by (with_reducible repeat (first | refine blk_drewN ?_ _ | refine blk_drew ?_ | refine blk_alloc ?_ _)); exact Aside0.out (by assumption)) ?_) | ((with_reducible refine gate_load22 (x := .tmp _) rfl ?_); (try (refine gate_guard (by rfl) ?_; dsimp only)); refine tab_elem _ rfl rfl rfl (by (with_reducible repeat (first | refine blk_drewN ?_ _ | refine blk_drew ?_ | refine blk_alloc ?_ _)); exact Aside0.out (by assumption)) (of_decide_eq_true (by first | (with_reducible assumption) | assumption)) (of_decide_eq_true (by first | (with_reducible assumption) | assumption)) ?_) | ((with_reducible refine gate_dst (N := 4) rfl ?_); (try (refine gate_guard (by rfl) ?_; dsimp only)); refine box_event ?hg (N := 4) ?hd (cs := (tabC a0_0)) (t := 24) ?hr ?_; (case hd => rfl); (case hg => rfl); (case hr => first | exact tab_box_run rfl rfl | exact tab_alloc_run rfl); intro gb194 hg w7 hbox hb; have n0_ := Aside0.mk (Kd.V_below (Kd.V_elderB (by (with_reducible repeat (first | apply Kd.V_alloc | apply Kd.V_drewN | apply Kd.V_drew)); exact HO1.out) gb194 (Nat.le_of_eq hg.symm)) hb); have n1_ := Aside0.mk (below_step (by repeat (first | (with_reducible first | exact HB.out | apply below_alloc | apply pw_below_drewN | apply below_drew1) | exact HB.out)) hb); have n2_ := Aside0.mk (hbox); have n3_ := Aside0.mk ((by rw [hg]; exact (below_size (by repeat (first | (with_reducible first | exact HB.out | apply below_alloc | apply pw_below_drewN | apply below_drew1) | exact HB.out))) : w.heap.size ≤ gb194)); have n4_ := Aside0.mk ((by rw [hg]; exact (below_size (by repeat (first | (with_reducible first | exact HB.out | apply below_alloc | apply pw_below_drewN | apply below_drew1) | exact HB.out))) : w.heap.size ≤ gb194)); clear HO1; clear HB; have HO1 := n0_; have HB := n1_; have BK194 := n2_; have GW194 := n3_; have GE194 := n4_; clear n0_ n1_ n2_ n3_ n4_; clear hb hbox hg) | ((with_reducible refine gate_callee (f := 8) rfl ?_); refine goesL_ (some 12) rfl rfl Try.func8 (by kernel_rfl) rfl #[] rfl (by (try simp only [List.map_toArray, List.map_cons, List.map_nil]); first | done | rfl | (simp only [List.length_drop, List.length_take]; rfl)) ?_; (with_reducible refine (decklelaw02_small.calls k  t195 _ A5.out).mono ?_); rintro e w8 ⟨rfl, hb⟩; refine ⟨_, rfl, ?_⟩; have n0_ := Aside0.mk (Kd.V_below (by (with_reducible repeat (first | apply Kd.V_alloc | apply Kd.V_drewN | apply Kd.V_drew)); exact HO1.out) hb); have n1_ := Aside0.mk (blk_below (g := gb194) (o := .cells (tabC a0_0) 24 (0, 0)) (by (with_reducible repeat (first | refine blk_drewN ?_ _ | refine blk_drew ?_ | refine blk_alloc ?_ _)); exact BK194.out) hb); have n2_ := Aside0.mk (below_step (by repeat (first | (with_reducible first | exact HB.out | apply below_alloc | apply pw_below_drewN | apply below_drew1 | refine below_set ?_ GE194.out) | exact HB.out)) hb); clear HO1; clear BK194; clear HB; have HO1 := n0_; have BK194 := n1_; have HB := n2_; clear n0_ n1_ n2_; (try clear hb); (try clear hb2); (try clear hk); (try clear hi)))
 (try simp only [Act.put, List.setIfInBounds_toArray, List.set_cons_zero, List.set_cons_succ])
 go_cut [30] (fun v30 wc => ∃ (kq : Nat) (x30_5 : Bool), v30 = .bool x30_5 ∧ Aside0 (decklelaw02_CrcParts.j0 kq l1 a2 a3 t195 x30_5 a0_0 = some r) ∧ Aside0 (kq ≤ k) ∧ Aside0 (Kd.V (Kd.int .u8) 5 wc w.heap.size (fun k_ => (P1_ k_ ∨ w.heap.size ≤ k_) ∧ k_ ≠ gb194) (.slice A1 l1.length c1) l1) ∧ Aside0 (wc.heap[gb194]? = some (.cells (tabC a0_0) 24 (0, 0))) ∧ Aside0 (Below w.heap.size w wc))
 case first =>
  have H := HC6.out
  clear HC6
  by_cases c9 : (l1.length : Int) > 1000
  ·rw [if_pos c9] at H
   have c9b0 : decide (1000 < (l1.length : Int)) = true := decide_eq_true c9
   have c9b1 : decide (1000 < l1.length) = true := decide_eq_true (by omega)
   clear c9
   (first | rw [c9b0] | (simp only [i64_w, i32_w]; rw [c9b0]) | skip)
   have H' := Aside0.mk H
   clear H
   go_wp2_with (first | ((with_reducible refine gate_load24 (x := .tmp _) rfl ?_); (try (refine gate_guard (by rfl) ?_; dsimp only)); refine tab_load rfl rfl rfl (by (with_reducible repeat (first | refine blk_drewN ?_ _ | refine blk_drew ?_ | refine blk_alloc ?_ _)); exact Aside0.out (by assumption)) ?_) | ((with_reducible refine gate_load22 (x := .tmp _) rfl ?_); (try (refine gate_guard (by rfl) ?_; dsimp only)); refine tab_elem _ rfl rfl rfl (by (with_reducible repeat (first | refine blk_drewN ?_ _ | refine blk_drew ?_ | refine blk_alloc ?_ _)); exact Aside0.out (by assumption)) (of_decide_eq_true (by first | (with_reducible assumption) | assumption)) (of_decide_eq_true (by first | (with_reducible assumption) | assumption)) ?_))
   go_meet
   case rel => exact ⟨_, (true), (by first | rfl | (simp; done) | (simp [*]; done)), H', ⟨by first | omega | exact Nat.le_refl _⟩, ⟨by (with_reducible repeat (first | apply Kd.V_alloc | apply Kd.V_drewN | apply Kd.V_drew)); exact HO1.out⟩, ⟨by (with_reducible repeat (first | refine blk_drewN ?_ _ | refine blk_drew ?_ | refine blk_alloc ?_ _)); exact BK194.out⟩, ⟨by repeat (first | (with_reducible first | exact HB.out | apply below_alloc | apply pw_below_drewN | apply below_drew1 | refine below_set ?_ GE194.out) | exact HB.out)⟩⟩
  rw [if_neg c9] at H
  have c9b0 : decide (1000 < (l1.length : Int)) = false := decide_eq_false c9
  have c9b1 : decide (1000 < l1.length) = false := decide_eq_false (by omega)
  clear c9
  (first | rw [c9b0] | (simp only [i64_w, i32_w]; rw [c9b0]) | skip)
  by_cases c10 : a2 < 0
  ·rw [if_pos c10] at H
   have c10b0 : decide (a2 < 0) = true := decide_eq_true c10
   clear c10
   have H' := Aside0.mk H
   clear H
   go_wp2_with (first | ((with_reducible refine gate_load24 (x := .tmp _) rfl ?_); (try (refine gate_guard (by rfl) ?_; dsimp only)); refine tab_load rfl rfl rfl (by (with_reducible repeat (first | refine blk_drewN ?_ _ | refine blk_drew ?_ | refine blk_alloc ?_ _)); exact Aside0.out (by assumption)) ?_) | ((with_reducible refine gate_load22 (x := .tmp _) rfl ?_); (try (refine gate_guard (by rfl) ?_; dsimp only)); refine tab_elem _ rfl rfl rfl (by (with_reducible repeat (first | refine blk_drewN ?_ _ | refine blk_drew ?_ | refine blk_alloc ?_ _)); exact Aside0.out (by assumption)) (of_decide_eq_true (by first | (with_reducible assumption) | assumption)) (of_decide_eq_true (by first | (with_reducible assumption) | assumption)) ?_))
   go_meet
   case rel => exact ⟨_, (true), (by first | rfl | (simp; done) | (simp [*]; done)), H', ⟨by first | omega | exact Nat.le_refl _⟩, ⟨by (with_reducible repeat (first | apply Kd.V_alloc | apply Kd.V_drewN | apply Kd.V_drew)); exact HO1.out⟩, ⟨by (with_reducible repeat (first | refine blk_drewN ?_ _ | refine blk_drew ?_ | refine blk_alloc ?_ _)); exact BK194.out⟩, ⟨by repeat (first | (with_reducible first | exact HB.out | apply below_alloc | apply pw_below_drewN | apply below_drew1 | refine below_set ?_ GE194.out) | exact HB.out)⟩⟩
  rw [if_neg c10] at H
  have c10b0 : decide (a2 < 0) = false := decide_eq_false c10
  clear c10
  by_cases c11 : a3 < a2
  rotate_left
  ·rw [if_neg c11] at H
   have c11b0 : decide (a3 < a2) = false := decide_eq_false c11
   clear c11
   have H' := Aside0.mk H
   clear H
   go_wp2_with (first | ((with_reducible refine gate_load24 (x := .tmp _) rfl ?_); (try (refine gate_guard (by rfl) ?_; dsimp only)); refine tab_load rfl rfl rfl (by (with_reducible repeat (first | refine blk_drewN ?_ _ | refine blk_drew ?_ | refine blk_alloc ?_ _)); exact Aside0.out (by assumption)) ?_) | ((with_reducible refine gate_load22 (x := .tmp _) rfl ?_); (try (refine gate_guard (by rfl) ?_; dsimp only)); refine tab_elem _ rfl rfl rfl (by (with_reducible repeat (first | refine blk_drewN ?_ _ | refine blk_drew ?_ | refine blk_alloc ?_ _)); exact Aside0.out (by assumption)) (of_decide_eq_true (by first | (with_reducible assumption) | assumption)) (of_decide_eq_true (by first | (with_reducible assumption) | assumption)) ?_))
   go_meet
   case rel => exact ⟨_, (decide (a3 > (l1.length : Int))), (by first | rfl | (simp; done) | (simp [*]; done)), H', ⟨by first | omega | exact Nat.le_refl _⟩, ⟨by (with_reducible repeat (first | apply Kd.V_alloc | apply Kd.V_drewN | apply Kd.V_drew)); exact HO1.out⟩, ⟨by (with_reducible repeat (first | refine blk_drewN ?_ _ | refine blk_drew ?_ | refine blk_alloc ?_ _)); exact BK194.out⟩, ⟨by repeat (first | (with_reducible first | exact HB.out | apply below_alloc | apply pw_below_drewN | apply below_drew1 | refine below_set ?_ GE194.out) | exact HB.out)⟩⟩
  rw [if_pos c11] at H
  have c11b0 : decide (a3 < a2) = true := decide_eq_true c11
  clear c11
  have H' := Aside0.mk H
  clear H
  go_wp2_with (first | ((with_reducible refine gate_load24 (x := .tmp _) rfl ?_); (try (refine gate_guard (by rfl) ?_; dsimp only)); refine tab_load rfl rfl rfl (by (with_reducible repeat (first | refine blk_drewN ?_ _ | refine blk_drew ?_ | refine blk_alloc ?_ _)); exact Aside0.out (by assumption)) ?_) | ((with_reducible refine gate_load22 (x := .tmp _) rfl ?_); (try (refine gate_guard (by rfl) ?_; dsimp only)); refine tab_elem _ rfl rfl rfl (by (with_reducible repeat (first | refine blk_drewN ?_ _ | refine blk_drew ?_ | refine blk_alloc ?_ _)); exact Aside0.out (by assumption)) (of_decide_eq_true (by first | (with_reducible assumption) | assumption)) (of_decide_eq_true (by first | (with_reducible assumption) | assumption)) ?_))
  go_meet
  case rel => exact ⟨_, (true), (by first | rfl | (simp; done) | (simp [*]; done)), H', ⟨by first | omega | exact Nat.le_refl _⟩, ⟨by (with_reducible repeat (first | apply Kd.V_alloc | apply Kd.V_drewN | apply Kd.V_drew)); exact HO1.out⟩, ⟨by (with_reducible repeat (first | refine blk_drewN ?_ _ | refine blk_drew ?_ | refine blk_alloc ?_ _)); exact BK194.out⟩, ⟨by repeat (first | (with_reducible first | exact HB.out | apply below_alloc | apply pw_below_drewN | apply below_drew1 | refine below_set ?_ GE194.out) | exact HB.out)⟩⟩
 case rest =>
  clear HC6
  try clear c1
  try clear p2
  try clear c5
  try clear c8
  try clear c9
  try clear c9b0
  try clear c9b1
  try clear c10
  try clear c10b0
  try clear c11
  try clear c11b0
  obtain ⟨kq, x30_5, rfl, HA, HJ5, HO_1, BK194, HB⟩ := hcut
  cases kq with
  | zero => exact absurd HA.out (by simp [decklelaw02_CrcParts.j0])
  | succ kj5 =>
   have H := HA.out
   clear HA
   simp only [decklelaw02_CrcParts.j0] at H
   by_cases c12 : x30_5 = true
   ·subst c12
    have H1 : (some t195) = some r := by rw [if_pos rfl] at H; exact H
    clear H
    have H := H1
    clear H1
    obtain rfl := Option.some.inj H
    go_wp2_with (first | ((with_reducible refine gate_load24 (x := .tmp _) rfl ?_); (try (refine gate_guard (by rfl) ?_; dsimp only)); refine tab_load rfl rfl rfl (by (with_reducible repeat (first | refine blk_drewN ?_ _ | refine blk_drew ?_ | refine blk_alloc ?_ _)); exact Aside0.out (by assumption)) ?_) | ((with_reducible refine gate_load22 (x := .tmp _) rfl ?_); (try (refine gate_guard (by rfl) ?_; dsimp only)); refine tab_elem _ rfl rfl rfl (by (with_reducible repeat (first | refine blk_drewN ?_ _ | refine blk_drew ?_ | refine blk_alloc ?_ _)); exact Aside0.out (by assumption)) (of_decide_eq_true (by first | (with_reducible assumption) | assumption)) (of_decide_eq_true (by first | (with_reducible assumption) | assumption)) ?_))
    go_ret
    exact ⟨by first | rfl | (simp [errW_none, errW_some] <;> rfl) | (simp [*, errW_none, errW_some] <;> rfl), by repeat (first | (with_reducible first | exact HB.out | apply below_alloc | apply pw_below_drewN | apply below_drew1 | refine below_set ?_ GE194.out) | exact HB.out)⟩
   replace c12 := Bool.eq_false_iff.mpr c12
   subst c12
   have H1 : ((crc_Sum.f kj5 a0_0 (([l1] : List (List Int)))).bind fun t199 => ((crc_Seal.f kj5 a0_0 (([l1] : List (List Int)))).bind fun t203 => (if 0 ≤ a2 then (if a2 ≤ (l1.length : Int) then ((crc_Sum.f kj5 a0_0 (([(l1.take (a2 : Int).toNat)] : List (List Int)))).bind fun t214 => (if a2 ≤ a3 then (if a3 ≤ (l1.length : Int) then (if 0 ≤ a3 then ((some (l1.drop (a3 : Int).toNat : List Int)).bind fun y220 => ((crc_More.f kj5 a0_0 t214 (([((l1.take (a3 : Int).toNat).drop (a2 : Int).toNat), y220] : List (List Int)))).bind fun t228 => (if t228 = t199 then ((crc_More.f kj5 a0_0 0 (([(l1.take (a3 : Int).toNat)] : List (List Int)))).bind fun t237 => ((crc_More.f kj5 a0_0 t237 (([y220] : List (List Int)))).bind fun t246 => (if t246 = t199 then ((crc_More.f kj5 a0_0 t199 ([] : List (List Int))).bind fun t247 => (decklelaw02_CrcParts.j1 kj5 l1 a2 a3 t195 t199 t203 (t247 != t199) a0_0)) else (none)))) else (none)))) else (none)) else (none)) else (none))) else (none)) else (none)))) = some r := by rw [if_neg (show ¬ (false = true) by decide)] at H; exact H
   clear H
   have H := H1
   clear H1
   obtain ⟨y196, hy196⟩ : ∃ y_ : List (List Int), y_ = (([l1] : List (List Int))) := ⟨_, rfl⟩
   replace H : ((crc_Sum.f kj5 a0_0 y196).bind fun t199 => ((crc_Seal.f kj5 a0_0 (([l1] : List (List Int)))).bind fun t203 => (if 0 ≤ a2 then (if a2 ≤ (l1.length : Int) then ((crc_Sum.f kj5 a0_0 (([(l1.take (a2 : Int).toNat)] : List (List Int)))).bind fun t214 => (if a2 ≤ a3 then (if a3 ≤ (l1.length : Int) then (if 0 ≤ a3 then ((some (l1.drop (a3 : Int).toNat : List Int)).bind fun y220 => ((crc_More.f kj5 a0_0 t214 (([((l1.take (a3 : Int).toNat).drop (a2 : Int).toNat), y220] : List (List Int)))).bind fun t228 => (if t228 = t199 then ((crc_More.f kj5 a0_0 0 (([(l1.take (a3 : Int).toNat)] : List (List Int)))).bind fun t237 => ((crc_More.f kj5 a0_0 t237 (([y220] : List (List Int)))).bind fun t246 => (if t246 = t199 then ((crc_More.f kj5 a0_0 t199 ([] : List (List Int))).bind fun t247 => (decklelaw02_CrcParts.j1 kj5 l1 a2 a3 t195 t199 t203 (t247 != t199) a0_0)) else (none)))) else (none)))) else (none)) else (none)) else (none))) else (none)) else (none)))) = some r := by first | (rw [hy196]; with_reducible exact H) | (have H2_ := (Option.bind_some _ _).symm.trans H; rw [hy196]; with_reducible exact H2_) | (have H2_ := (Option.bind_some _ _).symm.trans H; with_reducible exact H2_) | with_reducible exact H | (rw [hy196]; exact H) | exact H
   have Ny196 := Aside0.mk hy196
   clear hy196
   replace H := Option.bind_eq_some_iff.mp H
   obtain ⟨t199, A130, H⟩ := H
   replace H : ((crc_Seal.f kj5 a0_0 (([l1] : List (List Int)))).bind fun t203 => (if 0 ≤ a2 then (if a2 ≤ (l1.length : Int) then ((crc_Sum.f kj5 a0_0 (([(l1.take (a2 : Int).toNat)] : List (List Int)))).bind fun t214 => (if a2 ≤ a3 then (if a3 ≤ (l1.length : Int) then (if 0 ≤ a3 then ((some (l1.drop (a3 : Int).toNat : List Int)).bind fun y220 => ((crc_More.f kj5 a0_0 t214 (([((l1.take (a3 : Int).toNat).drop (a2 : Int).toNat), y220] : List (List Int)))).bind fun t228 => (if t228 = t199 then ((crc_More.f kj5 a0_0 0 (([(l1.take (a3 : Int).toNat)] : List (List Int)))).bind fun t237 => ((crc_More.f kj5 a0_0 t237 (([y220] : List (List Int)))).bind fun t246 => (if t246 = t199 then ((crc_More.f kj5 a0_0 t199 ([] : List (List Int))).bind fun t247 => (decklelaw02_CrcParts.j1 kj5 l1 a2 a3 t195 t199 t203 (t247 != t199) a0_0)) else (none)))) else (none)))) else (none)) else (none)) else (none))) else (none)) else (none))) = some r := H
   have A13 := Aside0.mk A130
   clear A130
   obtain ⟨y200, hy200⟩ : ∃ y_ : List (List Int), y_ = (([l1] : List (List Int))) := ⟨_, rfl⟩
   replace H : ((crc_Seal.f kj5 a0_0 y200).bind fun t203 => (if 0 ≤ a2 then (if a2 ≤ (l1.length : Int) then ((crc_Sum.f kj5 a0_0 (([(l1.take (a2 : Int).toNat)] : List (List Int)))).bind fun t214 => (if a2 ≤ a3 then (if a3 ≤ (l1.length : Int) then (if 0 ≤ a3 then ((some (l1.drop (a3 : Int).toNat : List Int)).bind fun y220 => ((crc_More.f kj5 a0_0 t214 (([((l1.take (a3 : Int).toNat).drop (a2 : Int).toNat), y220] : List (List Int)))).bind fun t228 => (if t228 = t199 then ((crc_More.f kj5 a0_0 0 (([(l1.take (a3 : Int).toNat)] : List (List Int)))).bind fun t237 => ((crc_More.f kj5 a0_0 t237 (([y220] : List (List Int)))).bind fun t246 => (if t246 = t199 then ((crc_More.f kj5 a0_0 t199 ([] : List (List Int))).bind fun t247 => (decklelaw02_CrcParts.j1 kj5 l1 a2 a3 t195 t199 t203 (t247 != t199) a0_0)) else (none)))) else (none)))) else (none)) else (none)) else (none))) else (none)) else (none))) = some r := by first | (rw [hy200]; with_reducible exact H) | (have H2_ := (Option.bind_some _ _).symm.trans H; rw [hy200]; with_reducible exact H2_) | (have H2_ := (Option.bind_some _ _).symm.trans H; with_reducible exact H2_) | with_reducible exact H | (rw [hy200]; exact H) | exact H
   have Ny200 := Aside0.mk hy200
   clear hy200
   replace H := Option.bind_eq_some_iff.mp H
   obtain ⟨t203, A140, H⟩ := H
   replace H : (if 0 ≤ a2 then (if a2 ≤ (l1.length : Int) then ((crc_Sum.f kj5 a0_0 (([(l1.take (a2 : Int).toNat)] : List (List Int)))).bind fun t214 => (if a2 ≤ a3 then (if a3 ≤ (l1.length : Int) then (if 0 ≤ a3 then ((some (l1.drop (a3 : Int).toNat : List Int)).bind fun y220 => ((crc_More.f kj5 a0_0 t214 (([((l1.take (a3 : Int).toNat).drop (a2 : Int).toNat), y220] : List (List Int)))).bind fun t228 => (if t228 = t199 then ((crc_More.f kj5 a0_0 0 (([(l1.take (a3 : Int).toNat)] : List (List Int)))).bind fun t237 => ((crc_More.f kj5 a0_0 t237 (([y220] : List (List Int)))).bind fun t246 => (if t246 = t199 then ((crc_More.f kj5 a0_0 t199 ([] : List (List Int))).bind fun t247 => (decklelaw02_CrcParts.j1 kj5 l1 a2 a3 t195 t199 t203 (t247 != t199) a0_0)) else (none)))) else (none)))) else (none)) else (none)) else (none))) else (none)) else (none)) = some r := H
   have A14 := Aside0.mk A140
   clear A140
   have HC15 := Aside0.mk H
   clear H
   have hfz16_0 := blk_frozen BK194.out 0
   go_upto_region 6 with (first | ((with_reducible refine gate_load24 (x := .tmp _) rfl ?_); (try (refine gate_guard (by rfl) ?_; dsimp only)); refine tab_load rfl rfl rfl (by (with_reducible repeat (first | refine blk_drewN ?_ _ | refine blk_drew ?_ | refine blk_alloc ?_ _)); exact Aside0.out (by assumption)) ?_) | ((with_reducible refine gate_load22 (x := .tmp _) rfl ?_); (try (refine gate_guard (by rfl) ?_; dsimp only)); refine tab_elem _ rfl rfl rfl (by (with_reducible repeat (first | refine blk_drewN ?_ _ | refine blk_drew ?_ | refine blk_alloc ?_ _)); exact Aside0.out (by assumption)) (of_decide_eq_true (by first | (with_reducible assumption) | assumption)) (of_decide_eq_true (by first | (with_reducible assumption) | assumption)) ?_) | ((with_reducible refine gate_dst (N := 34) rfl ?_); (try (refine gate_guard (by rfl) ?_; dsimp only)); refine Kd.N_lit (Kd.slice 5 (Kd.int .u8)) _ 28 ?hg (N' := 34) ?hd (xs := ([l1] : List (List Int))) (inner := [.slice A1 l1.length c1]) (ok := (fun k_ => (P1_ k_ ∨ w.heap.size ≤ k_) ∧ k_ ≠ gb194)) (okp := (fun k_ => (P1_ k_ ∨ w.heap.size ≤ k_) ∧ k_ ≠ gb194)) ?hr ?hp (fun _ hk => hk) ((show ∀ k_, wc.heap.size ≤ k_ → (fun k_ => (P1_ k_ ∨ w.heap.size ≤ k_) ∧ k_ ≠ gb194) k_ from fun k_ hk => ⟨(.inr (Nat.le_trans (below_size (by repeat (first | (with_reducible first | exact HB.out | apply below_alloc | apply pw_below_drewN | apply below_drew1 | refine below_set ?_ GE194.out) | exact HB.out))) hk)), Kd.freshB (g := gb194) (o := .cells (tabC a0_0) 24 (0, 0)) (by (with_reducible repeat (first | refine blk_drewN ?_ _ | refine blk_drew ?_ | refine blk_alloc ?_ _)); exact BK194.out) k_ hk⟩) _ (Nat.le_refl _)) (Below.refl _ _) (Nat.le_refl _) (by simp) ?_; (case hd => rfl); (case hg => rfl); (case hr => first | (go_simp; done) | (go_simp; rfl)); (case hp => exact (Reps.one (show Kd.FK (Kd.slice 5 (Kd.int .u8)) _ _ l1 [.slice A1 l1.length c1] from (Kd.FK_slice_mk (Kd.V_reads' (Kd.V_mono (ok' := (fun k_ => (P1_ k_ ∨ w.heap.size ≤ k_) ∧ k_ ≠ gb194)) (HO_1.out) (fun k_ hk => ⟨hk.1, hk.2⟩))).2.1 (Kd.V_F (Kd.V_mono (ok' := (fun k_ => (P1_ k_ ∨ w.heap.size ≤ k_) ∧ k_ ≠ gb194)) (HO_1.out) (fun k_ hk => ⟨hk.1, hk.2⟩))))) (Reps.none _ _))); intro v197 w17 ho18 hb hg_ hnew_; clear hg_ hnew_; (first | rw [← Ny196.out] at ho18 | (simp only [Int.reduceToNat] at ho18; rw [← Ny196.out] at ho18)); have n0_ := Aside0.mk (Kd.V_elder' (by (with_reducible repeat (first | apply Kd.V_alloc | apply Kd.V_drewN | apply Kd.V_drew)); exact HO_1.out) (Kd.N_base ho18) hb); have n1_ := Aside0.mk (Kd.N_lower ho18 (below_size (by repeat (first | (with_reducible first | exact HB.out | apply below_alloc | apply pw_below_drewN | apply below_drew1 | refine below_set ?_ GE194.out) | exact HB.out)))); have n2_ := Aside0.mk (blk_below (g := gb194) (o := .cells (tabC a0_0) 24 (0, 0)) (by (with_reducible repeat (first | refine blk_drewN ?_ _ | refine blk_drew ?_ | refine blk_alloc ?_ _)); exact BK194.out) hb); have n3_ := Aside0.mk (below_step (by repeat (first | (with_reducible first | exact HB.out | apply below_alloc | apply pw_below_drewN | apply below_drew1 | refine below_set ?_ GE194.out) | exact HB.out)) hb); clear HO_1; clear BK194; clear HB; have HO_1 := n0_; have HO198 := n1_; have BK194 := n2_; have HB := n3_; clear n0_ n1_ n2_ n3_; clear hb ho18; obtain ⟨Ao19, co19, eo19⟩ := Kd.N_slice HO198.out; subst eo19) | ((with_reducible refine gate_callee (f := 15) rfl ?_); refine goesL_ (some 35) rfl rfl Try.func15 (by kernel_rfl) rfl #[.agg (tabC a0_0), .slice Ao19 y196.length co19] rfl (by (try simp only [List.map_toArray, List.map_cons, List.map_nil]); first | done | rfl | (simp only [List.length_drop, List.length_take]; rfl)) ?_; (with_reducible refine (crc_Sum.calls kj5 a0_0 _ _ y196 t199 _ ?side1 ?side2 A13.out).mono ?_); (case side1 => repeat (first | exact (Kd.N_reads' HO198.out).2.2 | (with_reducible refine Kd.C_alloc ?_ _) | (with_reducible refine Kd.C_drewN ?_ _) | (with_reducible refine Kd.C_drew ?_))); (case side2 => exact (Kd.N_reads' HO198.out).2.1); rintro e w20 ⟨rfl, hb⟩; refine ⟨_, rfl, ?_⟩; have n0_ := Aside0.mk (Kd.V_below (by (with_reducible repeat (first | apply Kd.V_alloc | apply Kd.V_drewN | apply Kd.V_drew)); exact HO_1.out) hb); have n1_ := Aside0.mk (Kd.N_below (by (with_reducible repeat (first | apply Kd.N_alloc | apply Kd.N_drewN | apply Kd.N_drew)); exact HO198.out) hb); have n2_ := Aside0.mk (blk_below (g := gb194) (o := .cells (tabC a0_0) 24 (0, 0)) (by (with_reducible repeat (first | refine blk_drewN ?_ _ | refine blk_drew ?_ | refine blk_alloc ?_ _)); exact BK194.out) hb); have n3_ := Aside0.mk (below_step (by repeat (first | (with_reducible first | exact HB.out | apply below_alloc | apply pw_below_drewN | apply below_drew1 | refine below_set ?_ GE194.out) | exact HB.out)) hb); clear HO_1; clear HO198; clear BK194; clear HB; have HO_1 := n0_; have HO198 := n1_; have BK194 := n2_; have HB := n3_; clear n0_ n1_ n2_ n3_; (try clear hb); (try clear hb2); (try clear hk); (try clear hi); have hfz21_0 := blk_frozen BK194.out 0) | ((with_reducible refine gate_dst (N := 38) rfl ?_); (try (refine gate_guard (by rfl) ?_; dsimp only)); refine Kd.N_lit (Kd.slice 5 (Kd.int .u8)) _ 28 ?hg (N' := 38) ?hd (xs := ([l1] : List (List Int))) (inner := [.slice A1 l1.length c1]) (ok := (fun k_ => (P1_ k_ ∨ w.heap.size ≤ k_) ∧ some k_ ≠ (.slice Ao19 y196.length co19 : Value).ownBlock ∧ k_ ≠ gb194)) (okp := (fun k_ => (P1_ k_ ∨ w.heap.size ≤ k_) ∧ some k_ ≠ (.slice Ao19 y196.length co19 : Value).ownBlock ∧ k_ ≠ gb194)) ?hr ?hp (fun _ hk => hk) ((show ∀ k_, w20.heap.size ≤ k_ → (fun k_ => (P1_ k_ ∨ w.heap.size ≤ k_) ∧ some k_ ≠ (.slice Ao19 y196.length co19 : Value).ownBlock ∧ k_ ≠ gb194) k_ from fun k_ hk => ⟨(.inr (Nat.le_trans (below_size (by repeat (first | (with_reducible first | exact HB.out | apply below_alloc | apply pw_below_drewN | apply below_drew1 | refine below_set ?_ GE194.out) | exact HB.out))) hk)), Kd.fresh' (Kd.N_lt (by (with_reducible repeat (first | apply Kd.N_alloc | apply Kd.N_drewN | apply Kd.N_drew)); exact HO198.out)) k_ hk, Kd.freshB (g := gb194) (o := .cells (tabC a0_0) 24 (0, 0)) (by (with_reducible repeat (first | refine blk_drewN ?_ _ | refine blk_drew ?_ | refine blk_alloc ?_ _)); exact BK194.out) k_ hk⟩) _ (Nat.le_refl _)) (Below.refl _ _) (Nat.le_refl _) (by simp) ?_; (case hd => rfl); (case hg => rfl); (case hr => first | (go_simp; done) | (go_simp; rfl)); (case hp => exact (Reps.one (show Kd.FK (Kd.slice 5 (Kd.int .u8)) _ _ l1 [.slice A1 l1.length c1] from (Kd.FK_slice_mk (Kd.V_reads' (Kd.V_mono (ok' := (fun k_ => (P1_ k_ ∨ w.heap.size ≤ k_) ∧ some k_ ≠ (.slice Ao19 y196.length co19 : Value).ownBlock ∧ k_ ≠ gb194)) (HO_1.out) (fun k_ hk => ⟨hk.1.1, ⟨hk.2, hk.1.2⟩⟩))).2.1 (Kd.V_F (Kd.V_mono (ok' := (fun k_ => (P1_ k_ ∨ w.heap.size ≤ k_) ∧ some k_ ≠ (.slice Ao19 y196.length co19 : Value).ownBlock ∧ k_ ≠ gb194)) (HO_1.out) (fun k_ hk => ⟨hk.1.1, ⟨hk.2, hk.1.2⟩⟩))))) (Reps.none _ _))); intro v201 w22 ho23 hb hg_ hnew_; clear hg_ hnew_; (first | rw [← Ny200.out] at ho23 | (simp only [Int.reduceToNat] at ho23; rw [← Ny200.out] at ho23)); have n0_ := Aside0.mk (Kd.V_elder' (by (with_reducible repeat (first | apply Kd.V_alloc | apply Kd.V_drewN | apply Kd.V_drew)); exact HO_1.out) (Kd.N_base ho23) hb); have n1_ := Aside0.mk (Kd.N_elder' (by (with_reducible repeat (first | apply Kd.N_alloc | apply Kd.N_drewN | apply Kd.N_drew)); exact HO198.out) (Kd.N_base ho23) hb); have n2_ := Aside0.mk (Kd.N_lower ho23 (below_size (by repeat (first | (with_reducible first | exact HB.out | apply below_alloc | apply pw_below_drewN | apply below_drew1 | refine below_set ?_ GE194.out) | exact HB.out)))); have n3_ := Aside0.mk (blk_below (g := gb194) (o := .cells (tabC a0_0) 24 (0, 0)) (by (with_reducible repeat (first | refine blk_drewN ?_ _ | refine blk_drew ?_ | refine blk_alloc ?_ _)); exact BK194.out) hb); have n4_ := Aside0.mk (below_step (by repeat (first | (with_reducible first | exact HB.out | apply below_alloc | apply pw_below_drewN | apply below_drew1 | refine below_set ?_ GE194.out) | exact HB.out)) hb); clear HO_1; clear HO198; clear BK194; clear HB; have HO_1 := n0_; have HO198 := n1_; have HO202 := n2_; have BK194 := n3_; have HB := n4_; clear n0_ n1_ n2_ n3_ n4_; clear hb ho23; obtain ⟨Ao24, co24, eo24⟩ := Kd.N_slice HO202.out; subst eo24) | ((with_reducible refine gate_callee (f := 14) rfl ?_); refine goesL_ (some 39) rfl rfl Try.func14 (by kernel_rfl) rfl #[.agg (tabC a0_0), .slice Ao24 y200.length co24] rfl (by (try simp only [List.map_toArray, List.map_cons, List.map_nil]); first | done | rfl | (simp only [List.length_drop, List.length_take]; rfl)) ?_; (with_reducible refine (crc_Seal.calls kj5 a0_0 _ _ y200 t203 _ ?side1 ?side2 A14.out).mono ?_); (case side1 => repeat (first | exact (Kd.N_reads' HO202.out).2.2 | (with_reducible refine Kd.C_alloc ?_ _) | (with_reducible refine Kd.C_drewN ?_ _) | (with_reducible refine Kd.C_drew ?_))); (case side2 => exact (Kd.N_reads' HO202.out).2.1); rintro e w25 ⟨v204, rfl, ho0, hb⟩; refine ⟨_, rfl, ?_⟩; have n0_ := Aside0.mk (Kd.V_elder' (by (with_reducible repeat (first | apply Kd.V_alloc | apply Kd.V_drewN | apply Kd.V_drew)); exact HO_1.out) (Kd.R_base ho0) hb); have n1_ := Aside0.mk (Kd.N_elder' (by (with_reducible repeat (first | apply Kd.N_alloc | apply Kd.N_drewN | apply Kd.N_drew)); exact HO198.out) (Kd.R_base ho0) hb); have n2_ := Aside0.mk (Kd.N_elder' (by (with_reducible repeat (first | apply Kd.N_alloc | apply Kd.N_drewN | apply Kd.N_drew)); exact HO202.out) (Kd.R_base ho0) hb); have n3_ := Aside0.mk (Kd.R_lower (Kd.R_newM (M := fun k_ => (w.heap.size ≤ k_)) ho0 (below_size (by repeat (first | (with_reducible first | exact HB.out | apply below_alloc | apply pw_below_drewN | apply below_drew1 | refine below_set ?_ GE194.out) | exact HB.out))) (fun k_ h_ => h_)) (below_size (by repeat (first | (with_reducible first | exact HB.out | apply below_alloc | apply pw_below_drewN | apply below_drew1 | refine below_set ?_ GE194.out) | exact HB.out)))); have n4_ := Aside0.mk (blk_below (g := gb194) (o := .cells (tabC a0_0) 24 (0, 0)) (by (with_reducible repeat (first | refine blk_drewN ?_ _ | refine blk_drew ?_ | refine blk_alloc ?_ _)); exact BK194.out) hb); have n5_ := Aside0.mk (below_step (by repeat (first | (with_reducible first | exact HB.out | apply below_alloc | apply pw_below_drewN | apply below_drew1 | refine below_set ?_ GE194.out) | exact HB.out)) hb); clear HO_1; clear HO198; clear HO202; clear BK194; clear HB; have HO_1 := n0_; have HO198 := n1_; have HO202 := n2_; have HO205 := n3_; have BK194 := n4_; have HB := n5_; clear n0_ n1_ n2_ n3_ n4_ n5_; (try clear hb); (try clear hb2); (try clear hk); (try clear hi); (try clear ho0)))
   (try simp only [Act.put, List.setIfInBounds_toArray, List.set_cons_zero, List.set_cons_succ])
   go_cut [80] (fun v80 wc => ∃ (kq : Nat) (x80_14 : Bool), v80 = .bool x80_14 ∧ Aside0 (decklelaw02_CrcParts.j1 kq l1 a2 a3 t195 t199 t203 x80_14 a0_0 = some r) ∧ Aside0 (kq ≤ kj5) ∧ Aside0 (Kd.V (Kd.int .u8) 5 wc w.heap.size (fun k_ => (P1_ k_ ∨ w.heap.size ≤ k_) ∧ some k_ ≠ (v204 : Value).ownBlock ∧ k_ ≠ gb194) (.slice A1 l1.length c1) l1) ∧ Aside0 (Kd.R (Kd.int .u8) 5 wc w.heap.size (fun k_ => (w.heap.size ≤ k_)) v204 t203) ∧ Aside0 (wc.heap[gb194]? = some (.cells (tabC a0_0) 24 (0, 0))) ∧ Aside0 (Below w.heap.size w wc))
   case first =>
    have H := HC15.out
    clear HC15
    by_cases c26 : 0 ≤ a2
    rotate_left
    ·rw [if_neg c26] at H
     exact absurd H (by simp)
    rw [if_pos c26] at H
    have c26b0 := eq_true c26
    have c26b1 : decide (0 ≤ a2) = true := decide_eq_true c26
    clear c26
    by_cases c27 : a2 ≤ (l1.length : Int)
    rotate_left
    ·rw [if_neg c27] at H
     exact absurd H (by simp)
    rw [if_pos c27] at H
    have c27b0 := eq_true c27
    have c27b1 : decide (a2 ≤ (l1.length : Int)) = true := decide_eq_true c27
    clear c27
    obtain ⟨y206, hy206⟩ : ∃ y_ : List Int, y_ = (l1.take (a2 : Int).toNat) := ⟨_, rfl⟩
    replace H : ((crc_Sum.f kj5 a0_0 (([y206] : List (List Int)))).bind fun t214 => (if a2 ≤ a3 then (if a3 ≤ (l1.length : Int) then (if 0 ≤ a3 then ((some (l1.drop (a3 : Int).toNat : List Int)).bind fun y220 => ((crc_More.f kj5 a0_0 t214 (([((l1.take (a3 : Int).toNat).drop (a2 : Int).toNat), y220] : List (List Int)))).bind fun t228 => (if t228 = t199 then ((crc_More.f kj5 a0_0 0 (([(l1.take (a3 : Int).toNat)] : List (List Int)))).bind fun t237 => ((crc_More.f kj5 a0_0 t237 (([y220] : List (List Int)))).bind fun t246 => (if t246 = t199 then ((crc_More.f kj5 a0_0 t199 ([] : List (List Int))).bind fun t247 => (decklelaw02_CrcParts.j1 kj5 l1 a2 a3 t195 t199 t203 (t247 != t199) a0_0)) else (none)))) else (none)))) else (none)) else (none)) else (none))) = some r := by first | (rw [hy206]; with_reducible exact H) | (have H2_ := (Option.bind_some _ _).symm.trans H; rw [hy206]; with_reducible exact H2_) | (have H2_ := (Option.bind_some _ _).symm.trans H; with_reducible exact H2_) | with_reducible exact H | (rw [hy206]; exact H) | exact H
    have Ny206 := Aside0.mk hy206
    clear hy206
    obtain ⟨y211, hy211⟩ : ∃ y_ : List (List Int), y_ = (([y206] : List (List Int))) := ⟨_, rfl⟩
    replace H : ((crc_Sum.f kj5 a0_0 y211).bind fun t214 => (if a2 ≤ a3 then (if a3 ≤ (l1.length : Int) then (if 0 ≤ a3 then ((some (l1.drop (a3 : Int).toNat : List Int)).bind fun y220 => ((crc_More.f kj5 a0_0 t214 (([((l1.take (a3 : Int).toNat).drop (a2 : Int).toNat), y220] : List (List Int)))).bind fun t228 => (if t228 = t199 then ((crc_More.f kj5 a0_0 0 (([(l1.take (a3 : Int).toNat)] : List (List Int)))).bind fun t237 => ((crc_More.f kj5 a0_0 t237 (([y220] : List (List Int)))).bind fun t246 => (if t246 = t199 then ((crc_More.f kj5 a0_0 t199 ([] : List (List Int))).bind fun t247 => (decklelaw02_CrcParts.j1 kj5 l1 a2 a3 t195 t199 t203 (t247 != t199) a0_0)) else (none)))) else (none)))) else (none)) else (none)) else (none))) = some r := by first | (rw [hy211]; with_reducible exact H) | (have H2_ := (Option.bind_some _ _).symm.trans H; rw [hy211]; with_reducible exact H2_) | (have H2_ := (Option.bind_some _ _).symm.trans H; with_reducible exact H2_) | with_reducible exact H | (rw [hy211]; exact H) | exact H
    have Ny211 := Aside0.mk hy211
    clear hy211
    replace H := Option.bind_eq_some_iff.mp H
    obtain ⟨t214, A280, H⟩ := H
    replace H : (if a2 ≤ a3 then (if a3 ≤ (l1.length : Int) then (if 0 ≤ a3 then ((some (l1.drop (a3 : Int).toNat : List Int)).bind fun y220 => ((crc_More.f kj5 a0_0 t214 (([((l1.take (a3 : Int).toNat).drop (a2 : Int).toNat), y220] : List (List Int)))).bind fun t228 => (if t228 = t199 then ((crc_More.f kj5 a0_0 0 (([(l1.take (a3 : Int).toNat)] : List (List Int)))).bind fun t237 => ((crc_More.f kj5 a0_0 t237 (([y220] : List (List Int)))).bind fun t246 => (if t246 = t199 then ((crc_More.f kj5 a0_0 t199 ([] : List (List Int))).bind fun t247 => (decklelaw02_CrcParts.j1 kj5 l1 a2 a3 t195 t199 t203 (t247 != t199) a0_0)) else (none)))) else (none)))) else (none)) else (none)) else (none)) = some r := H
    have A28 := Aside0.mk A280
    clear A280
    have c29b0 := eq_true (of_decide_eq_true (by first | (with_reducible assumption) | assumption) : 0 ≤ a2)
    by_cases c30 : a2 ≤ a3
    rotate_left
    ·rw [if_neg c30] at H
     exact absurd H (by simp)
    rw [if_pos c30] at H
    have c30b0 := eq_true c30
    have c30b1 : decide (a2 ≤ a3) = true := decide_eq_true c30
    clear c30
    by_cases c31 : a3 ≤ (l1.length : Int)
    rotate_left
    ·rw [if_neg c31] at H
     exact absurd H (by simp)
    rw [if_pos c31] at H
    have c31b0 := eq_true c31
    have c31b1 : decide (a3 ≤ (l1.length : Int)) = true := decide_eq_true c31
    clear c31
    obtain ⟨y215, hy215⟩ : ∃ y_ : List Int, y_ = ((l1.take (a3 : Int).toNat).drop (a2 : Int).toNat) := ⟨_, rfl⟩
    replace H : (if 0 ≤ a3 then ((some (l1.drop (a3 : Int).toNat : List Int)).bind fun y220 => ((crc_More.f kj5 a0_0 t214 (([y215, y220] : List (List Int)))).bind fun t228 => (if t228 = t199 then ((crc_More.f kj5 a0_0 0 (([(l1.take (a3 : Int).toNat)] : List (List Int)))).bind fun t237 => ((crc_More.f kj5 a0_0 t237 (([y220] : List (List Int)))).bind fun t246 => (if t246 = t199 then ((crc_More.f kj5 a0_0 t199 ([] : List (List Int))).bind fun t247 => (decklelaw02_CrcParts.j1 kj5 l1 a2 a3 t195 t199 t203 (t247 != t199) a0_0)) else (none)))) else (none)))) else (none)) = some r := by first | (rw [hy215]; with_reducible exact H) | (have H2_ := (Option.bind_some _ _).symm.trans H; rw [hy215]; with_reducible exact H2_) | (have H2_ := (Option.bind_some _ _).symm.trans H; with_reducible exact H2_) | with_reducible exact H | (rw [hy215]; exact H) | exact H
    have Ny215 := Aside0.mk hy215
    clear hy215
    by_cases c32 : 0 ≤ a3
    rotate_left
    ·rw [if_neg c32] at H
     exact absurd H (by simp)
    rw [if_pos c32] at H
    have c32b0 := eq_true c32
    have c32b1 : decide (0 ≤ a3) = true := decide_eq_true c32
    clear c32
    have c33b0 := eq_true (of_decide_eq_true (by first | (with_reducible assumption) | assumption) : a3 ≤ (l1.length : Int))
    obtain ⟨y220, hy220⟩ : ∃ y_ : List Int, y_ = (l1.drop (a3 : Int).toNat) := ⟨_, rfl⟩
    replace H : ((crc_More.f kj5 a0_0 t214 (([y215, y220] : List (List Int)))).bind fun t228 => (if t228 = t199 then ((crc_More.f kj5 a0_0 0 (([(l1.take (a3 : Int).toNat)] : List (List Int)))).bind fun t237 => ((crc_More.f kj5 a0_0 t237 (([y220] : List (List Int)))).bind fun t246 => (if t246 = t199 then ((crc_More.f kj5 a0_0 t199 ([] : List (List Int))).bind fun t247 => (decklelaw02_CrcParts.j1 kj5 l1 a2 a3 t195 t199 t203 (t247 != t199) a0_0)) else (none)))) else (none))) = some r := by first | (rw [hy220]; with_reducible exact H) | (have H2_ := (Option.bind_some _ _).symm.trans H; rw [hy220]; with_reducible exact H2_) | (have H2_ := (Option.bind_some _ _).symm.trans H; with_reducible exact H2_) | with_reducible exact H | (rw [hy220]; exact H) | exact H
    have Ny220 := Aside0.mk hy220
    clear hy220
    obtain ⟨y225, hy225⟩ : ∃ y_ : List (List Int), y_ = (([y215, y220] : List (List Int))) := ⟨_, rfl⟩
    replace H : ((crc_More.f kj5 a0_0 t214 y225).bind fun t228 => (if t228 = t199 then ((crc_More.f kj5 a0_0 0 (([(l1.take (a3 : Int).toNat)] : List (List Int)))).bind fun t237 => ((crc_More.f kj5 a0_0 t237 (([y220] : List (List Int)))).bind fun t246 => (if t246 = t199 then ((crc_More.f kj5 a0_0 t199 ([] : List (List Int))).bind fun t247 => (decklelaw02_CrcParts.j1 kj5 l1 a2 a3 t195 t199 t203 (t247 != t199) a0_0)) else (none)))) else (none))) = some r := by first | (rw [hy225]; with_reducible exact H) | (have H2_ := (Option.bind_some _ _).symm.trans H; rw [hy225]; with_reducible exact H2_) | (have H2_ := (Option.bind_some _ _).symm.trans H; with_reducible exact H2_) | with_reducible exact H | (rw [hy225]; exact H) | exact H
    have Ny225 := Aside0.mk hy225
    clear hy225
    replace H := Option.bind_eq_some_iff.mp H
    obtain ⟨t228, A340, H⟩ := H
    replace H : (if t228 = t199 then ((crc_More.f kj5 a0_0 0 (([(l1.take (a3 : Int).toNat)] : List (List Int)))).bind fun t237 => ((crc_More.f kj5 a0_0 t237 (([y220] : List (List Int)))).bind fun t246 => (if t246 = t199 then ((crc_More.f kj5 a0_0 t199 ([] : List (List Int))).bind fun t247 => (decklelaw02_CrcParts.j1 kj5 l1 a2 a3 t195 t199 t203 (t247 != t199) a0_0)) else (none)))) else (none)) = some r := H
    have A34 := Aside0.mk A340
    clear A340
    by_cases c35 : t228 = t199
    rotate_left
    ·rw [if_neg c35] at H
     exact absurd H (by simp)
    rw [if_pos c35] at H
    have c35b0 : (t228 == t199) = true := beq_iff_eq.mpr c35
    have c35b1 : (t228 != t199) = false := bne_eq_false_iff_eq.mpr c35
    clear c35
    (first | rw [c35b0] | (simp only [i64_w, i32_w]; rw [c35b0]) | skip)
    have c36b0 := eq_true (of_decide_eq_true (by first | (with_reducible assumption) | assumption) : 0 ≤ a3)
    have c37b0 := eq_true (of_decide_eq_true (by first | (with_reducible assumption) | assumption) : a3 ≤ (l1.length : Int))
    obtain ⟨y229, hy229⟩ : ∃ y_ : List Int, y_ = (l1.take (a3 : Int).toNat) := ⟨_, rfl⟩
    replace H : ((crc_More.f kj5 a0_0 0 (([y229] : List (List Int)))).bind fun t237 => ((crc_More.f kj5 a0_0 t237 (([y220] : List (List Int)))).bind fun t246 => (if t246 = t199 then ((crc_More.f kj5 a0_0 t199 ([] : List (List Int))).bind fun t247 => (decklelaw02_CrcParts.j1 kj5 l1 a2 a3 t195 t199 t203 (t247 != t199) a0_0)) else (none)))) = some r := by first | (rw [hy229]; with_reducible exact H) | (have H2_ := (Option.bind_some _ _).symm.trans H; rw [hy229]; with_reducible exact H2_) | (have H2_ := (Option.bind_some _ _).symm.trans H; with_reducible exact H2_) | with_reducible exact H | (rw [hy229]; exact H) | exact H
    have Ny229 := Aside0.mk hy229
    clear hy229
    obtain ⟨y234, hy234⟩ : ∃ y_ : List (List Int), y_ = (([y229] : List (List Int))) := ⟨_, rfl⟩
    replace H : ((crc_More.f kj5 a0_0 0 y234).bind fun t237 => ((crc_More.f kj5 a0_0 t237 (([y220] : List (List Int)))).bind fun t246 => (if t246 = t199 then ((crc_More.f kj5 a0_0 t199 ([] : List (List Int))).bind fun t247 => (decklelaw02_CrcParts.j1 kj5 l1 a2 a3 t195 t199 t203 (t247 != t199) a0_0)) else (none)))) = some r := by first | (rw [hy234]; with_reducible exact H) | (have H2_ := (Option.bind_some _ _).symm.trans H; rw [hy234]; with_reducible exact H2_) | (have H2_ := (Option.bind_some _ _).symm.trans H; with_reducible exact H2_) | with_reducible exact H | (rw [hy234]; exact H) | exact H
    have Ny234 := Aside0.mk hy234
    clear hy234
    replace H := Option.bind_eq_some_iff.mp H
    obtain ⟨t237, A380, H⟩ := H
    replace H : ((crc_More.f kj5 a0_0 t237 (([y220] : List (List Int)))).bind fun t246 => (if t246 = t199 then ((crc_More.f kj5 a0_0 t199 ([] : List (List Int))).bind fun t247 => (decklelaw02_CrcParts.j1 kj5 l1 a2 a3 t195 t199 t203 (t247 != t199) a0_0)) else (none))) = some r := H
    have A38 := Aside0.mk A380
    clear A380
    have c39b0 := eq_true (of_decide_eq_true (by first | (with_reducible assumption) | assumption) : 0 ≤ a3)
    have c40b0 := eq_true (of_decide_eq_true (by first | (with_reducible assumption) | assumption) : a3 ≤ (l1.length : Int))
    obtain ⟨y243, hy243⟩ : ∃ y_ : List (List Int), y_ = (([y220] : List (List Int))) := ⟨_, rfl⟩
    replace H : ((crc_More.f kj5 a0_0 t237 y243).bind fun t246 => (if t246 = t199 then ((crc_More.f kj5 a0_0 t199 ([] : List (List Int))).bind fun t247 => (decklelaw02_CrcParts.j1 kj5 l1 a2 a3 t195 t199 t203 (t247 != t199) a0_0)) else (none))) = some r := by first | (rw [hy243]; with_reducible exact H) | (have H2_ := (Option.bind_some _ _).symm.trans H; rw [hy243]; with_reducible exact H2_) | (have H2_ := (Option.bind_some _ _).symm.trans H; with_reducible exact H2_) | with_reducible exact H | (rw [hy243]; exact H) | exact H
    have Ny243 := Aside0.mk hy243
    clear hy243
    replace H := Option.bind_eq_some_iff.mp H
    obtain ⟨t246, A410, H⟩ := H
    replace H : (if t246 = t199 then ((crc_More.f kj5 a0_0 t199 ([] : List (List Int))).bind fun t247 => (decklelaw02_CrcParts.j1 kj5 l1 a2 a3 t195 t199 t203 (t247 != t199) a0_0)) else (none)) = some r := H
    have A41 := Aside0.mk A410
    clear A410
    by_cases c42 : t246 = t199
    rotate_left
    ·rw [if_neg c42] at H
     exact absurd H (by simp)
    rw [if_pos c42] at H
    have c42b0 : (t246 == t199) = true := beq_iff_eq.mpr c42
    have c42b1 : (t246 != t199) = false := bne_eq_false_iff_eq.mpr c42
    clear c42
    replace H := Option.bind_eq_some_iff.mp H
    obtain ⟨t247, A430, H⟩ := H
    replace H : (decklelaw02_CrcParts.j1 kj5 l1 a2 a3 t195 t199 t203 (t247 != t199) a0_0) = some r := H
    have A43 := Aside0.mk A430
    clear A430
    have H' := Aside0.mk H
    clear H
    try go_wp2_with (first | ((with_reducible refine gate_load24 (x := .tmp _) rfl ?_); (try (refine gate_guard (by rfl) ?_; dsimp only)); refine tab_load rfl rfl rfl (by (with_reducible repeat (first | refine blk_drewN ?_ _ | refine blk_drew ?_ | refine blk_alloc ?_ _)); exact Aside0.out (by assumption)) ?_) | ((with_reducible refine gate_load22 (x := .tmp _) rfl ?_); (try (refine gate_guard (by rfl) ?_; dsimp only)); refine tab_elem _ rfl rfl rfl (by (with_reducible repeat (first | refine blk_drewN ?_ _ | refine blk_drew ?_ | refine blk_alloc ?_ _)); exact Aside0.out (by assumption)) (of_decide_eq_true (by first | (with_reducible assumption) | assumption)) (of_decide_eq_true (by first | (with_reducible assumption) | assumption)) ?_))
    replace HO_1 := Aside0.mk (Kd.V_drew HO_1.out)
    replace HO198 := Aside0.mk (Kd.N_drew HO198.out)
    replace HO202 := Aside0.mk (Kd.N_drew HO202.out)
    replace HO205 := Aside0.mk (Kd.R_drew HO205.out)
    replace BK194 := Aside0.mk (blk_drew BK194.out)
    replace HB := Aside0.mk (below_drew1 HB.out)
    have q45 : (a2 : Int) ≤ ((l1.length : Int) : Int) := of_decide_eq_true (by first | (with_reducible assumption) | assumption)
    obtain ⟨i045, hi045, _, hsz45, _⟩ := info_parts info5
    have hroom45 : l1.length ≤ c1 := (Kd.V_reads' HO_1.out).2.1
    have hC45 : Kd.F (Kd.int .u8) _ _ A1 l1.length l1 := (Kd.V_at (base := w.heap.size) HO_1.out).2.2
    have hcut45 := cut_to (P := Try.prog) 28 5 .i64 Try.underlying28 hi045 A1 l1.length c1 a2 (of_decide_eq_true (by first | (with_reducible assumption) | assumption)) q45 hroom45
    have hr45 := Kd.F_take (m := (a2 : Int).toNat) hC45 (by omega)
    have hy45 : y206.length = (a2 : Int).toNat := (by rw [Ny206.out, List.length_take]; omega)
    rw [← Ny206.out] at hr45
    rw [← hy45] at hcut45
    have HO210 := Aside0.mk (show Kd.V (Kd.int .u8) 5 _ w.heap.size _ (.slice A1 y206.length c1) y206 from Kd.V_mk (by omega) hr45)
    have HC210 := Aside0.mk (show y206.length ≤ c1 from by omega)
    clear hr45 hC45 hroom45 hi045 hsz45
    have KY45 := Aside0.mk hy45
    clear hy45
    replace q45 := eq_true q45
    have q46 : (a3 : Int) ≤ ((l1.length : Int) : Int) := of_decide_eq_true (by first | (with_reducible assumption) | assumption)
    obtain ⟨i046, hi046, _, hsz46, _⟩ := info_parts info5
    have hroom46 : l1.length ≤ c1 := (Kd.V_reads' HO_1.out).2.1
    have hC46 : Kd.F (Kd.int .u8) _ _ A1 l1.length l1 := (Kd.V_at (base := w.heap.size) HO_1.out).2.2
    have ql46 : (a2 : Int) ≤ (a3 : Int) := of_decide_eq_true (by first | (with_reducible assumption) | assumption)
    have q046 : (0 : Int) ≤ (a2 : Int) := of_decide_eq_true (by first | (with_reducible assumption) | assumption)
    have hcut46 := cut_mid (P := Try.prog) 28 5 .i64 .i64 Try.underlying28 hi046 1 hsz46 A1 l1.length c1 a2 a3 q046 ql46 q46 hroom46
    have hr46 := Kd.F_mid (lo := (a2 : Int).toNat) (hi := (a3 : Int).toNat) (c := c1) hC46 (by omega) (by omega) hroom46
    obtain ⟨A46, hA46⟩ : ∃ A_, A_ = (if c1 = (a2 : Int).toNat then A1 else (A1 : Option Addr).map (·.add ((a2 : Int).toNat * 1))) := ⟨_, rfl⟩
    obtain ⟨c46, hc46⟩ : ∃ c_, c_ = c1 - (a2 : Int).toNat := ⟨_, rfl⟩
    have hy46 : y215.length = (a3 : Int).toNat - (a2 : Int).toNat := (by rw [Ny215.out, List.length_drop, List.length_take] <;> omega)
    rw [show ((l1).take (a3 : Int).toNat).drop (a2 : Int).toNat = y215 from Ny215.out.symm] at hr46
    replace hr46 : Kd.F (Kd.int .u8) _ _ A46 y215.length y215 := (by rw [hA46]; exact hr46)
    rw [← hy46, ← hA46, ← hc46] at hcut46
    have HO219 := Aside0.mk (show Kd.V (Kd.int .u8) 5 _ w.heap.size _ (.slice A46 y215.length c46) y215 from Kd.V_mk (by rw [hy46, hc46]; exact Nat.sub_le_sub_right (Nat.le_trans (by omega) hroom46) _) hr46)
    have HC219 := Aside0.mk (show y215.length ≤ c46 from by rw [hy46, hc46]; exact Nat.sub_le_sub_right (Nat.le_trans (by omega) hroom46) _)
    clear hr46 hC46 hroom46 hi046 hsz46 hc46
    have KY46 := Aside0.mk hy46
    have KA46 := Aside0.mk hA46
    clear hy46 hA46
    replace q46 := eq_true q46
    have q47 : (a3 : Int) ≤ ((l1.length : Int) : Int) := of_decide_eq_true (by first | (with_reducible assumption) | assumption)
    obtain ⟨i047, hi047, _, hsz47, _⟩ := info_parts info5
    have hroom47 : l1.length ≤ c1 := (Kd.V_reads' HO_1.out).2.1
    have hC47 : Kd.F (Kd.int .u8) _ _ A1 l1.length l1 := (Kd.V_at (base := w.heap.size) HO_1.out).2.2
    have q047 : (0 : Int) ≤ (a3 : Int) := of_decide_eq_true (by first | (with_reducible assumption) | assumption)
    have hcut47 := cut_from (P := Try.prog) 28 5 .i64 Try.underlying28 hi047 1 hsz47 A1 l1.length c1 a3 q047 q47
    have hr47 := Kd.F_cut (m := (a3 : Int).toNat) (c := c1) hC47 (by omega) hroom47
    obtain ⟨A47, hA47⟩ : ∃ A_, A_ = (if c1 = (a3 : Int).toNat then A1 else (A1 : Option Addr).map (·.add ((a3 : Int).toNat * 1))) := ⟨_, rfl⟩
    obtain ⟨c47, hc47⟩ : ∃ c_, c_ = c1 - (a3 : Int).toNat := ⟨_, rfl⟩
    have hy47 : y220.length = l1.length - (a3 : Int).toNat := (by rw [Ny220.out, List.length_drop] <;> omega)
    rw [show (l1).drop (a3 : Int).toNat = y220 from Ny220.out.symm] at hr47
    replace hr47 : Kd.F (Kd.int .u8) _ _ A47 y220.length y220 := (by rw [hA47]; exact hr47)
    rw [← hy47, ← hA47, ← hc47] at hcut47
    have HO224 := Aside0.mk (show Kd.V (Kd.int .u8) 5 _ w.heap.size _ (.slice A47 y220.length c47) y220 from Kd.V_mk (by rw [hy47, hc47]; exact Nat.sub_le_sub_right hroom47 _) hr47)
    have HC224 := Aside0.mk (show y220.length ≤ c47 from by rw [hy47, hc47]; exact Nat.sub_le_sub_right hroom47 _)
    clear hr47 hC47 hroom47 hi047 hsz47 hc47
    have KY47 := Aside0.mk hy47
    have KA47 := Aside0.mk hA47
    clear hy47 hA47
    replace q47 := eq_true q47
    have q48 : (a3 : Int) ≤ ((l1.length : Int) : Int) := of_decide_eq_true (by first | (with_reducible assumption) | assumption)
    obtain ⟨i048, hi048, _, hsz48, _⟩ := info_parts info5
    have hroom48 : l1.length ≤ c1 := (Kd.V_reads' HO_1.out).2.1
    have hC48 : Kd.F (Kd.int .u8) _ _ A1 l1.length l1 := (Kd.V_at (base := w.heap.size) HO_1.out).2.2
    have hcut48 := cut_to (P := Try.prog) 28 5 .i64 Try.underlying28 hi048 A1 l1.length c1 a3 (of_decide_eq_true (by first | (with_reducible assumption) | assumption)) q48 hroom48
    have hr48 := Kd.F_take (m := (a3 : Int).toNat) hC48 (by omega)
    have hy48 : y229.length = (a3 : Int).toNat := (by rw [Ny229.out, List.length_take]; omega)
    rw [← Ny229.out] at hr48
    rw [← hy48] at hcut48
    have HO233 := Aside0.mk (show Kd.V (Kd.int .u8) 5 _ w.heap.size _ (.slice A1 y229.length c1) y229 from Kd.V_mk (by omega) hr48)
    have HC233 := Aside0.mk (show y229.length ≤ c1 from by omega)
    clear hr48 hC48 hroom48 hi048 hsz48
    have KY48 := Aside0.mk hy48
    clear hy48
    replace q48 := eq_true q48
    refine start_ (n := 41) (S := fun w' => w'.heap[gb194]? = some (.cells (tabC a0_0) 24 (0, 0))) (ds := []) tq88 (by kernel_rfl) rfl rfl (BK194.out) (fun hHeld => ?_); refine with_tabW decklelaw02_CrcParts.tab6 decklelaw02_CrcParts.bits6 (fun HT_ HW_ => ?_)
    generalize w25.drew = w44 at HO_1 HO198 HO202 HO205 BK194 HB HO210 HO219 HO224 HO233 hHeld ⊢
    refine pure_ (i := 2) (N := some 42) (v := ?_) (a' := ?_) tq85 rfl rfl (any_of HT_.out (by kernel_rfl)) (fun _ _ _ h => h) (Or.inl ⟨by rfl, ?_⟩) ?_ ?_
    rotate_left
    ·intro w'
     go_simp
     with_reducible rfl
    rotate_left
    ·simp only [Act.put, sA, sZ, sS, i64_w, i32_w]
     rfl
    refine pure_ (i := 3) (N := some 43) (v := ?_) (a' := ?_) tq83 rfl rfl (any_of HT_.out (by kernel_rfl)) (fun _ _ _ h => h) (Or.inl ⟨by rfl, ?_⟩) ?_ ?_
    rotate_left
    ·intro w'
     go_simp
     with_reducible rfl
    rotate_left
    ·simp only [Act.put, sA, sZ, sS, i64_w, i32_w]
     rfl
    refine pure_ (i := 4) (N := some 44) (v := ?_) (a' := ?_) tq81 rfl rfl (any_of HT_.out (by kernel_rfl)) (fun _ _ _ h => h) (Or.inl ⟨by rfl, ?_⟩) ?_ ?_
    rotate_left
    ·intro w'
     go_simp
     with_reducible rfl
    rotate_left
    ·simp only [Act.put, sA, sZ, sS, i64_w, i32_w]
     rfl
    refine pure_ (i := 7) (N := some 47) (v := ?_) (a' := ?_) tq79 rfl rfl (any_of HT_.out (by kernel_rfl)) (fun _ _ _ h => h) (Or.inl ⟨by rfl, ?_⟩) ?_ ?_
    rotate_left
    ·intro w'
     go_simp
     with_reducible rfl
    rotate_left
    ·simp only [Act.put, sA, sZ, sS, i64_w, i32_w]
     rfl
    refine pure_ (i := 8) (N := some 48) (v := ?_) (a' := ?_) tq77 rfl rfl (any_of HT_.out (by kernel_rfl)) (fun _ _ _ h => h) (Or.inl ⟨by rfl, ?_⟩) ?_ ?_
    rotate_left
    ·intro w'
     go_simp
     with_reducible rfl
    rotate_left
    ·simp only [Act.put, sA, sZ, sS, i64_w, i32_w]
     rfl
    refine pure_ (i := 9) (N := some 49) (v := ?_) (a' := ?_) tq75 rfl rfl (any_of HT_.out (by kernel_rfl)) (fun _ _ _ h => h) (Or.inl ⟨by rfl, ?_⟩) ?_ ?_
    rotate_left
    ·intro w'
     go_simp
     with_reducible rfl
    rotate_left
    ·simp only [Act.put, sA, sZ, sS, i64_w, i32_w]
     rfl
    refine pure_ (i := 10) (N := some 50) (v := ?_) (a' := ?_) tq73 rfl rfl (any_of HT_.out (by kernel_rfl)) (fun _ _ _ h => h) (Or.inl ⟨by rfl, ?_⟩) ?_ ?_
    rotate_left
    ·intro w'
     go_simp
     with_reducible rfl
    rotate_left
    ·simp only [Act.put, sA, sZ, sS, i64_w, i32_w]
     rfl
    refine pure_ (i := 11) (N := some 51) (v := ?_) (a' := ?_) tq71 rfl rfl (any_of HT_.out (by kernel_rfl)) (fun _ _ _ h => h) (Or.inl ⟨by rfl, ?_⟩) ?_ ?_
    rotate_left
    ·intro w'
     go_simp
     with_reducible rfl
    rotate_left
    ·simp only [Act.put, sA, sZ, sS, i64_w, i32_w]
     rfl
    refine pure_ (i := 12) (N := some 52) (v := ?_) (a' := ?_) tq69 rfl rfl (any_of HT_.out (by kernel_rfl)) (fun _ _ _ h => h) (Or.inl ⟨by rfl, ?_⟩) ?_ ?_
    rotate_left
    ·intro w'
     go_simp
     with_reducible rfl
    rotate_left
    ·simp only [Act.put, sA, sZ, sS, i64_w, i32_w]
     rfl
    refine pure_ (i := 13) (N := some 53) (v := ?_) (a' := ?_) tq67 rfl rfl (any_of HT_.out (by kernel_rfl)) (fun _ _ _ h => h) (Or.inl ⟨by rfl, ?_⟩) ?_ ?_
    rotate_left
    ·intro w'
     go_simp
     with_reducible rfl
    rotate_left
    ·simp only [Act.put, sA, sZ, sS, i64_w, i32_w]
     rfl
    refine pure_ (i := 16) (N := some 56) (v := ?_) (a' := ?_) tq65 rfl rfl (any_of HT_.out (by kernel_rfl)) (fun _ _ _ h => h) (Or.inl ⟨by rfl, ?_⟩) ?_ ?_
    rotate_left
    ·intro w'
     go_simp
     with_reducible rfl
    rotate_left
    ·simp only [Act.put, sA, sZ, sS, i64_w, i32_w]
     rfl
    refine take_ (i := 0) (N := some 40) (v := ?_) (a' := ?_) tq63 rfl rfl (take_ofW HT_.out HW_.out (by kernel_rfl)) (fun _ _ _ h => h) (Or.inl ⟨by rfl, ?_⟩) hHeld ?_ ?_
    rotate_left
    ·intro w' s0
     (first | (rw [tab_load_run (x := .tmp 4) rfl rfl (by assumption)]) | (go_simp; with_reducible rfl))
    rotate_left
    ·simp only [Act.put, sA, sZ, sS, i64_w, i32_w]
     rfl
    refine take_ (i := 1) (N := some 41) (v := ?_) (a' := ?_) tq62 rfl rfl (take_ofW HT_.out HW_.out (by kernel_rfl)) (fun _ _ _ h => h) (Or.inl ⟨by rfl, ?_⟩) hHeld ?_ ?_
    rotate_left
    ·intro w' s0
     (first | (rw [tab_load_run (x := .tmp 4) rfl rfl (by assumption)]) | (go_simp; with_reducible rfl))
    rotate_left
    ·simp only [Act.put, sA, sZ, sS, i64_w, i32_w]
     rfl
    refine join_ (σ := Value × Value × Value × Value) 10 tq21 (fun s_ => [(45, s_.1), (46, .int .u32 t214), (54, s_.2.1), (55, .int .u32 t228), (64, s_.2.2.1), (65, .int .u32 t237), (69, s_.2.2.2), (57, .bool false), (58, .bool false), (59, .agg (tabC a0_0)), (60, .agg (tabC a0_0)), (61, .slice A1 l1.length c1), (62, .int .i64 a3), (63, .slice A1 y229.length c1), (66, .slice A1 l1.length c1), (67, .int .i64 a3), (68, .slice A47 y220.length c47), (71, .int .u32 t199)]) (fun s_ w' => (w'.heap[gb194]? = some (.cells (tabC a0_0) 24 (0, 0))) ∧ (VN w' w (fun k_ => (P1_ k_ ∨ w.heap.size ≤ k_) ∧ NB (.slice Ao24 y200.length co24) k_ ∧ NB v204 k_ ∧ NB s_.1 k_ ∧ NB s_.2.1 k_ ∧ NB s_.2.2.1 k_ ∧ NB s_.2.2.2 k_ ∧ k_ ≠ gb194) (.slice Ao19 y196.length co19) y196) ∧ (VN w' w (fun k_ => (P1_ k_ ∨ w.heap.size ≤ k_) ∧ NB (.slice Ao19 y196.length co19) k_ ∧ NB v204 k_ ∧ NB s_.1 k_ ∧ NB s_.2.1 k_ ∧ NB s_.2.2.1 k_ ∧ NB s_.2.2.2 k_ ∧ k_ ≠ gb194) (.slice Ao24 y200.length co24) y200) ∧ (Kd.R (Kd.int .u8) 5 w' w.heap.size (fun k_ => (w.heap.size ≤ k_)) v204 t203) ∧ (VV w' w (fun k_ => (P1_ k_ ∨ w.heap.size ≤ k_) ∧ NB (.slice Ao19 y196.length co19) k_ ∧ NB (.slice Ao24 y200.length co24) k_ ∧ NB v204 k_ ∧ NB s_.1 k_ ∧ NB s_.2.1 k_ ∧ NB s_.2.2.1 k_ ∧ NB s_.2.2.2 k_ ∧ k_ ≠ gb194) (.slice A1 y206.length c1) y206) ∧ (VN w' w (fun k_ => (P1_ k_ ∨ w.heap.size ≤ k_) ∧ NB (.slice Ao19 y196.length co19) k_ ∧ NB (.slice Ao24 y200.length co24) k_ ∧ NB v204 k_ ∧ NB s_.2.1 k_ ∧ NB s_.2.2.1 k_ ∧ NB s_.2.2.2 k_ ∧ k_ ≠ gb194) s_.1 y211) ∧ (VV w' w (fun k_ => (P1_ k_ ∨ w.heap.size ≤ k_) ∧ NB (.slice Ao19 y196.length co19) k_ ∧ NB (.slice Ao24 y200.length co24) k_ ∧ NB v204 k_ ∧ NB s_.1 k_ ∧ NB s_.2.1 k_ ∧ NB s_.2.2.1 k_ ∧ NB s_.2.2.2 k_ ∧ k_ ≠ gb194) (.slice A46 y215.length c46) y215) ∧ (VV w' w (fun k_ => (P1_ k_ ∨ w.heap.size ≤ k_) ∧ NB (.slice Ao19 y196.length co19) k_ ∧ NB (.slice Ao24 y200.length co24) k_ ∧ NB v204 k_ ∧ NB s_.1 k_ ∧ NB s_.2.1 k_ ∧ NB s_.2.2.1 k_ ∧ NB s_.2.2.2 k_ ∧ k_ ≠ gb194) (.slice A47 y220.length c47) y220) ∧ (VN w' w (fun k_ => (P1_ k_ ∨ w.heap.size ≤ k_) ∧ NB (.slice Ao19 y196.length co19) k_ ∧ NB (.slice Ao24 y200.length co24) k_ ∧ NB v204 k_ ∧ NB s_.1 k_ ∧ NB s_.2.2.1 k_ ∧ NB s_.2.2.2 k_ ∧ k_ ≠ gb194) s_.2.1 y225) ∧ (VV w' w (fun k_ => (P1_ k_ ∨ w.heap.size ≤ k_) ∧ NB (.slice Ao19 y196.length co19) k_ ∧ NB (.slice Ao24 y200.length co24) k_ ∧ NB v204 k_ ∧ NB s_.1 k_ ∧ NB s_.2.1 k_ ∧ NB s_.2.2.1 k_ ∧ NB s_.2.2.2 k_ ∧ k_ ≠ gb194) (.slice A1 y229.length c1) y229) ∧ (VN w' w (fun k_ => (P1_ k_ ∨ w.heap.size ≤ k_) ∧ NB (.slice Ao19 y196.length co19) k_ ∧ NB (.slice Ao24 y200.length co24) k_ ∧ NB v204 k_ ∧ NB s_.1 k_ ∧ NB s_.2.1 k_ ∧ NB s_.2.2.2 k_ ∧ k_ ≠ gb194) s_.2.2.1 y234) ∧ (VN w' w (fun k_ => (P1_ k_ ∨ w.heap.size ≤ k_) ∧ NB (.slice Ao19 y196.length co19) k_ ∧ NB (.slice Ao24 y200.length co24) k_ ∧ NB v204 k_ ∧ NB s_.1 k_ ∧ NB s_.2.1 k_ ∧ NB s_.2.2.1 k_ ∧ k_ ≠ gb194) s_.2.2.2 y243) ∧ (VV w' w (fun k_ => (P1_ k_ ∨ w.heap.size ≤ k_) ∧ NB (.slice Ao19 y196.length co19) k_ ∧ NB (.slice Ao24 y200.length co24) k_ ∧ NB v204 k_ ∧ NB s_.1 k_ ∧ NB s_.2.1 k_ ∧ NB s_.2.2.1 k_ ∧ NB s_.2.2.2 k_ ∧ k_ ≠ gb194) (.slice A1 l1.length c1) l1) ∧ (w'.heap[gb194]? = some (.cells (tabC a0_0) 24 (0, 0))) ∧ (Below w.heap.size w w')) ?_ ?_
    rotate_left
    ·intro hJ5_6_14_15_24_25_29
     refine join_ (σ := Value × Value × Value) 11 tq25 (fun s_ => [(45, s_.1), (46, .int .u32 t214), (54, s_.2.1), (55, .int .u32 t228), (64, s_.2.2), (65, .int .u32 t237), (57, .bool false), (58, .bool false), (59, .agg (tabC a0_0)), (60, .agg (tabC a0_0)), (61, .slice A1 l1.length c1), (62, .int .i64 a3), (63, .slice A1 y229.length c1), (66, .slice A1 l1.length c1), (67, .int .i64 a3), (68, .slice A47 y220.length c47), (71, .int .u32 t199)]) (fun s_ w' => (w'.heap[gb194]? = some (.cells (tabC a0_0) 24 (0, 0))) ∧ (VN w' w (fun k_ => (P1_ k_ ∨ w.heap.size ≤ k_) ∧ NB (.slice Ao24 y200.length co24) k_ ∧ NB v204 k_ ∧ NB s_.1 k_ ∧ NB s_.2.1 k_ ∧ NB s_.2.2 k_ ∧ k_ ≠ gb194) (.slice Ao19 y196.length co19) y196) ∧ (VN w' w (fun k_ => (P1_ k_ ∨ w.heap.size ≤ k_) ∧ NB (.slice Ao19 y196.length co19) k_ ∧ NB v204 k_ ∧ NB s_.1 k_ ∧ NB s_.2.1 k_ ∧ NB s_.2.2 k_ ∧ k_ ≠ gb194) (.slice Ao24 y200.length co24) y200) ∧ (Kd.R (Kd.int .u8) 5 w' w.heap.size (fun k_ => (w.heap.size ≤ k_)) v204 t203) ∧ (VV w' w (fun k_ => (P1_ k_ ∨ w.heap.size ≤ k_) ∧ NB (.slice Ao19 y196.length co19) k_ ∧ NB (.slice Ao24 y200.length co24) k_ ∧ NB v204 k_ ∧ NB s_.1 k_ ∧ NB s_.2.1 k_ ∧ NB s_.2.2 k_ ∧ k_ ≠ gb194) (.slice A1 y206.length c1) y206) ∧ (VN w' w (fun k_ => (P1_ k_ ∨ w.heap.size ≤ k_) ∧ NB (.slice Ao19 y196.length co19) k_ ∧ NB (.slice Ao24 y200.length co24) k_ ∧ NB v204 k_ ∧ NB s_.2.1 k_ ∧ NB s_.2.2 k_ ∧ k_ ≠ gb194) s_.1 y211) ∧ (VV w' w (fun k_ => (P1_ k_ ∨ w.heap.size ≤ k_) ∧ NB (.slice Ao19 y196.length co19) k_ ∧ NB (.slice Ao24 y200.length co24) k_ ∧ NB v204 k_ ∧ NB s_.1 k_ ∧ NB s_.2.1 k_ ∧ NB s_.2.2 k_ ∧ k_ ≠ gb194) (.slice A46 y215.length c46) y215) ∧ (VV w' w (fun k_ => (P1_ k_ ∨ w.heap.size ≤ k_) ∧ NB (.slice Ao19 y196.length co19) k_ ∧ NB (.slice Ao24 y200.length co24) k_ ∧ NB v204 k_ ∧ NB s_.1 k_ ∧ NB s_.2.1 k_ ∧ NB s_.2.2 k_ ∧ k_ ≠ gb194) (.slice A47 y220.length c47) y220) ∧ (VN w' w (fun k_ => (P1_ k_ ∨ w.heap.size ≤ k_) ∧ NB (.slice Ao19 y196.length co19) k_ ∧ NB (.slice Ao24 y200.length co24) k_ ∧ NB v204 k_ ∧ NB s_.1 k_ ∧ NB s_.2.2 k_ ∧ k_ ≠ gb194) s_.2.1 y225) ∧ (VV w' w (fun k_ => (P1_ k_ ∨ w.heap.size ≤ k_) ∧ NB (.slice Ao19 y196.length co19) k_ ∧ NB (.slice Ao24 y200.length co24) k_ ∧ NB v204 k_ ∧ NB s_.1 k_ ∧ NB s_.2.1 k_ ∧ NB s_.2.2 k_ ∧ k_ ≠ gb194) (.slice A1 y229.length c1) y229) ∧ (VN w' w (fun k_ => (P1_ k_ ∨ w.heap.size ≤ k_) ∧ NB (.slice Ao19 y196.length co19) k_ ∧ NB (.slice Ao24 y200.length co24) k_ ∧ NB v204 k_ ∧ NB s_.1 k_ ∧ NB s_.2.1 k_ ∧ k_ ≠ gb194) s_.2.2 y234) ∧ (VV w' w (fun k_ => (P1_ k_ ∨ w.heap.size ≤ k_) ∧ NB (.slice Ao19 y196.length co19) k_ ∧ NB (.slice Ao24 y200.length co24) k_ ∧ NB v204 k_ ∧ NB s_.1 k_ ∧ NB s_.2.1 k_ ∧ NB s_.2.2 k_ ∧ k_ ≠ gb194) (.slice A1 l1.length c1) l1) ∧ (w'.heap[gb194]? = some (.cells (tabC a0_0) 24 (0, 0))) ∧ (Below w.heap.size w w')) ?_ ?_
     rotate_left
     ·intro hJ5_6_14_15_24_25
      refine join_ (σ := Value × Value × Value × Value) 11 tq23 (fun s_ => [(45, s_.1), (46, .int .u32 t214), (54, s_.2.1), (55, .int .u32 t228), (64, s_.2.2.1), (69, s_.2.2.2), (57, .bool false), (58, .bool false), (59, .agg (tabC a0_0)), (60, .agg (tabC a0_0)), (61, .slice A1 l1.length c1), (62, .int .i64 a3), (63, .slice A1 y229.length c1), (66, .slice A1 l1.length c1), (67, .int .i64 a3), (68, .slice A47 y220.length c47), (71, .int .u32 t199)]) (fun s_ w' => (w'.heap[gb194]? = some (.cells (tabC a0_0) 24 (0, 0))) ∧ (VN w' w (fun k_ => (P1_ k_ ∨ w.heap.size ≤ k_) ∧ NB (.slice Ao24 y200.length co24) k_ ∧ NB v204 k_ ∧ NB s_.1 k_ ∧ NB s_.2.1 k_ ∧ NB s_.2.2.1 k_ ∧ NB s_.2.2.2 k_ ∧ k_ ≠ gb194) (.slice Ao19 y196.length co19) y196) ∧ (VN w' w (fun k_ => (P1_ k_ ∨ w.heap.size ≤ k_) ∧ NB (.slice Ao19 y196.length co19) k_ ∧ NB v204 k_ ∧ NB s_.1 k_ ∧ NB s_.2.1 k_ ∧ NB s_.2.2.1 k_ ∧ NB s_.2.2.2 k_ ∧ k_ ≠ gb194) (.slice Ao24 y200.length co24) y200) ∧ (Kd.R (Kd.int .u8) 5 w' w.heap.size (fun k_ => (w.heap.size ≤ k_)) v204 t203) ∧ (VV w' w (fun k_ => (P1_ k_ ∨ w.heap.size ≤ k_) ∧ NB (.slice Ao19 y196.length co19) k_ ∧ NB (.slice Ao24 y200.length co24) k_ ∧ NB v204 k_ ∧ NB s_.1 k_ ∧ NB s_.2.1 k_ ∧ NB s_.2.2.1 k_ ∧ NB s_.2.2.2 k_ ∧ k_ ≠ gb194) (.slice A1 y206.length c1) y206) ∧ (VN w' w (fun k_ => (P1_ k_ ∨ w.heap.size ≤ k_) ∧ NB (.slice Ao19 y196.length co19) k_ ∧ NB (.slice Ao24 y200.length co24) k_ ∧ NB v204 k_ ∧ NB s_.2.1 k_ ∧ NB s_.2.2.1 k_ ∧ NB s_.2.2.2 k_ ∧ k_ ≠ gb194) s_.1 y211) ∧ (VV w' w (fun k_ => (P1_ k_ ∨ w.heap.size ≤ k_) ∧ NB (.slice Ao19 y196.length co19) k_ ∧ NB (.slice Ao24 y200.length co24) k_ ∧ NB v204 k_ ∧ NB s_.1 k_ ∧ NB s_.2.1 k_ ∧ NB s_.2.2.1 k_ ∧ NB s_.2.2.2 k_ ∧ k_ ≠ gb194) (.slice A46 y215.length c46) y215) ∧ (VV w' w (fun k_ => (P1_ k_ ∨ w.heap.size ≤ k_) ∧ NB (.slice Ao19 y196.length co19) k_ ∧ NB (.slice Ao24 y200.length co24) k_ ∧ NB v204 k_ ∧ NB s_.1 k_ ∧ NB s_.2.1 k_ ∧ NB s_.2.2.1 k_ ∧ NB s_.2.2.2 k_ ∧ k_ ≠ gb194) (.slice A47 y220.length c47) y220) ∧ (VN w' w (fun k_ => (P1_ k_ ∨ w.heap.size ≤ k_) ∧ NB (.slice Ao19 y196.length co19) k_ ∧ NB (.slice Ao24 y200.length co24) k_ ∧ NB v204 k_ ∧ NB s_.1 k_ ∧ NB s_.2.2.1 k_ ∧ NB s_.2.2.2 k_ ∧ k_ ≠ gb194) s_.2.1 y225) ∧ (VV w' w (fun k_ => (P1_ k_ ∨ w.heap.size ≤ k_) ∧ NB (.slice Ao19 y196.length co19) k_ ∧ NB (.slice Ao24 y200.length co24) k_ ∧ NB v204 k_ ∧ NB s_.1 k_ ∧ NB s_.2.1 k_ ∧ NB s_.2.2.1 k_ ∧ NB s_.2.2.2 k_ ∧ k_ ≠ gb194) (.slice A1 y229.length c1) y229) ∧ (VN w' w (fun k_ => (P1_ k_ ∨ w.heap.size ≤ k_) ∧ NB (.slice Ao19 y196.length co19) k_ ∧ NB (.slice Ao24 y200.length co24) k_ ∧ NB v204 k_ ∧ NB s_.1 k_ ∧ NB s_.2.1 k_ ∧ NB s_.2.2.2 k_ ∧ k_ ≠ gb194) s_.2.2.1 y234) ∧ (VN w' w (fun k_ => (P1_ k_ ∨ w.heap.size ≤ k_) ∧ NB (.slice Ao19 y196.length co19) k_ ∧ NB (.slice Ao24 y200.length co24) k_ ∧ NB v204 k_ ∧ NB s_.1 k_ ∧ NB s_.2.1 k_ ∧ NB s_.2.2.1 k_ ∧ k_ ≠ gb194) s_.2.2.2 y243) ∧ (VV w' w (fun k_ => (P1_ k_ ∨ w.heap.size ≤ k_) ∧ NB (.slice Ao19 y196.length co19) k_ ∧ NB (.slice Ao24 y200.length co24) k_ ∧ NB v204 k_ ∧ NB s_.1 k_ ∧ NB s_.2.1 k_ ∧ NB s_.2.2.1 k_ ∧ NB s_.2.2.2 k_ ∧ k_ ≠ gb194) (.slice A1 l1.length c1) l1) ∧ (w'.heap[gb194]? = some (.cells (tabC a0_0) 24 (0, 0))) ∧ (Below w.heap.size w w')) ?_ ?_
      rotate_left
      ·intro hJ5_6_14_15_24_29
       refine join_ (σ := Value × Value × Value) 12 tq27 (fun s_ => [(45, s_.1), (46, .int .u32 t214), (54, s_.2.1), (55, .int .u32 t228), (64, s_.2.2), (57, .bool false), (58, .bool false), (59, .agg (tabC a0_0)), (60, .agg (tabC a0_0)), (61, .slice A1 l1.length c1), (62, .int .i64 a3), (63, .slice A1 y229.length c1), (66, .slice A1 l1.length c1), (67, .int .i64 a3), (68, .slice A47 y220.length c47), (71, .int .u32 t199)]) (fun s_ w' => (w'.heap[gb194]? = some (.cells (tabC a0_0) 24 (0, 0))) ∧ (VN w' w (fun k_ => (P1_ k_ ∨ w.heap.size ≤ k_) ∧ NB (.slice Ao24 y200.length co24) k_ ∧ NB v204 k_ ∧ NB s_.1 k_ ∧ NB s_.2.1 k_ ∧ NB s_.2.2 k_ ∧ k_ ≠ gb194) (.slice Ao19 y196.length co19) y196) ∧ (VN w' w (fun k_ => (P1_ k_ ∨ w.heap.size ≤ k_) ∧ NB (.slice Ao19 y196.length co19) k_ ∧ NB v204 k_ ∧ NB s_.1 k_ ∧ NB s_.2.1 k_ ∧ NB s_.2.2 k_ ∧ k_ ≠ gb194) (.slice Ao24 y200.length co24) y200) ∧ (Kd.R (Kd.int .u8) 5 w' w.heap.size (fun k_ => (w.heap.size ≤ k_)) v204 t203) ∧ (VV w' w (fun k_ => (P1_ k_ ∨ w.heap.size ≤ k_) ∧ NB (.slice Ao19 y196.length co19) k_ ∧ NB (.slice Ao24 y200.length co24) k_ ∧ NB v204 k_ ∧ NB s_.1 k_ ∧ NB s_.2.1 k_ ∧ NB s_.2.2 k_ ∧ k_ ≠ gb194) (.slice A1 y206.length c1) y206) ∧ (VN w' w (fun k_ => (P1_ k_ ∨ w.heap.size ≤ k_) ∧ NB (.slice Ao19 y196.length co19) k_ ∧ NB (.slice Ao24 y200.length co24) k_ ∧ NB v204 k_ ∧ NB s_.2.1 k_ ∧ NB s_.2.2 k_ ∧ k_ ≠ gb194) s_.1 y211) ∧ (VV w' w (fun k_ => (P1_ k_ ∨ w.heap.size ≤ k_) ∧ NB (.slice Ao19 y196.length co19) k_ ∧ NB (.slice Ao24 y200.length co24) k_ ∧ NB v204 k_ ∧ NB s_.1 k_ ∧ NB s_.2.1 k_ ∧ NB s_.2.2 k_ ∧ k_ ≠ gb194) (.slice A46 y215.length c46) y215) ∧ (VV w' w (fun k_ => (P1_ k_ ∨ w.heap.size ≤ k_) ∧ NB (.slice Ao19 y196.length co19) k_ ∧ NB (.slice Ao24 y200.length co24) k_ ∧ NB v204 k_ ∧ NB s_.1 k_ ∧ NB s_.2.1 k_ ∧ NB s_.2.2 k_ ∧ k_ ≠ gb194) (.slice A47 y220.length c47) y220) ∧ (VN w' w (fun k_ => (P1_ k_ ∨ w.heap.size ≤ k_) ∧ NB (.slice Ao19 y196.length co19) k_ ∧ NB (.slice Ao24 y200.length co24) k_ ∧ NB v204 k_ ∧ NB s_.1 k_ ∧ NB s_.2.2 k_ ∧ k_ ≠ gb194) s_.2.1 y225) ∧ (VV w' w (fun k_ => (P1_ k_ ∨ w.heap.size ≤ k_) ∧ NB (.slice Ao19 y196.length co19) k_ ∧ NB (.slice Ao24 y200.length co24) k_ ∧ NB v204 k_ ∧ NB s_.1 k_ ∧ NB s_.2.1 k_ ∧ NB s_.2.2 k_ ∧ k_ ≠ gb194) (.slice A1 y229.length c1) y229) ∧ (VN w' w (fun k_ => (P1_ k_ ∨ w.heap.size ≤ k_) ∧ NB (.slice Ao19 y196.length co19) k_ ∧ NB (.slice Ao24 y200.length co24) k_ ∧ NB v204 k_ ∧ NB s_.1 k_ ∧ NB s_.2.1 k_ ∧ k_ ≠ gb194) s_.2.2 y234) ∧ (VV w' w (fun k_ => (P1_ k_ ∨ w.heap.size ≤ k_) ∧ NB (.slice Ao19 y196.length co19) k_ ∧ NB (.slice Ao24 y200.length co24) k_ ∧ NB v204 k_ ∧ NB s_.1 k_ ∧ NB s_.2.1 k_ ∧ NB s_.2.2 k_ ∧ k_ ≠ gb194) (.slice A1 l1.length c1) l1) ∧ (w'.heap[gb194]? = some (.cells (tabC a0_0) 24 (0, 0))) ∧ (Below w.heap.size w w')) ?_ ?_
       rotate_left
       ·intro hJ5_6_14_15_24
        refine join_ (σ := Value × Value × Value) 12 tq26 (fun s_ => [(45, s_.1), (46, .int .u32 t214), (54, s_.2.1), (55, .int .u32 t228), (69, s_.2.2), (57, .bool false), (58, .bool false), (59, .agg (tabC a0_0)), (60, .agg (tabC a0_0)), (61, .slice A1 l1.length c1), (62, .int .i64 a3), (63, .slice A1 y229.length c1), (66, .slice A1 l1.length c1), (67, .int .i64 a3), (68, .slice A47 y220.length c47), (71, .int .u32 t199)]) (fun s_ w' => (w'.heap[gb194]? = some (.cells (tabC a0_0) 24 (0, 0))) ∧ (VN w' w (fun k_ => (P1_ k_ ∨ w.heap.size ≤ k_) ∧ NB (.slice Ao24 y200.length co24) k_ ∧ NB v204 k_ ∧ NB s_.1 k_ ∧ NB s_.2.1 k_ ∧ NB s_.2.2 k_ ∧ k_ ≠ gb194) (.slice Ao19 y196.length co19) y196) ∧ (VN w' w (fun k_ => (P1_ k_ ∨ w.heap.size ≤ k_) ∧ NB (.slice Ao19 y196.length co19) k_ ∧ NB v204 k_ ∧ NB s_.1 k_ ∧ NB s_.2.1 k_ ∧ NB s_.2.2 k_ ∧ k_ ≠ gb194) (.slice Ao24 y200.length co24) y200) ∧ (Kd.R (Kd.int .u8) 5 w' w.heap.size (fun k_ => (w.heap.size ≤ k_)) v204 t203) ∧ (VV w' w (fun k_ => (P1_ k_ ∨ w.heap.size ≤ k_) ∧ NB (.slice Ao19 y196.length co19) k_ ∧ NB (.slice Ao24 y200.length co24) k_ ∧ NB v204 k_ ∧ NB s_.1 k_ ∧ NB s_.2.1 k_ ∧ NB s_.2.2 k_ ∧ k_ ≠ gb194) (.slice A1 y206.length c1) y206) ∧ (VN w' w (fun k_ => (P1_ k_ ∨ w.heap.size ≤ k_) ∧ NB (.slice Ao19 y196.length co19) k_ ∧ NB (.slice Ao24 y200.length co24) k_ ∧ NB v204 k_ ∧ NB s_.2.1 k_ ∧ NB s_.2.2 k_ ∧ k_ ≠ gb194) s_.1 y211) ∧ (VV w' w (fun k_ => (P1_ k_ ∨ w.heap.size ≤ k_) ∧ NB (.slice Ao19 y196.length co19) k_ ∧ NB (.slice Ao24 y200.length co24) k_ ∧ NB v204 k_ ∧ NB s_.1 k_ ∧ NB s_.2.1 k_ ∧ NB s_.2.2 k_ ∧ k_ ≠ gb194) (.slice A46 y215.length c46) y215) ∧ (VV w' w (fun k_ => (P1_ k_ ∨ w.heap.size ≤ k_) ∧ NB (.slice Ao19 y196.length co19) k_ ∧ NB (.slice Ao24 y200.length co24) k_ ∧ NB v204 k_ ∧ NB s_.1 k_ ∧ NB s_.2.1 k_ ∧ NB s_.2.2 k_ ∧ k_ ≠ gb194) (.slice A47 y220.length c47) y220) ∧ (VN w' w (fun k_ => (P1_ k_ ∨ w.heap.size ≤ k_) ∧ NB (.slice Ao19 y196.length co19) k_ ∧ NB (.slice Ao24 y200.length co24) k_ ∧ NB v204 k_ ∧ NB s_.1 k_ ∧ NB s_.2.2 k_ ∧ k_ ≠ gb194) s_.2.1 y225) ∧ (VV w' w (fun k_ => (P1_ k_ ∨ w.heap.size ≤ k_) ∧ NB (.slice Ao19 y196.length co19) k_ ∧ NB (.slice Ao24 y200.length co24) k_ ∧ NB v204 k_ ∧ NB s_.1 k_ ∧ NB s_.2.1 k_ ∧ NB s_.2.2 k_ ∧ k_ ≠ gb194) (.slice A1 y229.length c1) y229) ∧ (VN w' w (fun k_ => (P1_ k_ ∨ w.heap.size ≤ k_) ∧ NB (.slice Ao19 y196.length co19) k_ ∧ NB (.slice Ao24 y200.length co24) k_ ∧ NB v204 k_ ∧ NB s_.1 k_ ∧ NB s_.2.1 k_ ∧ k_ ≠ gb194) s_.2.2 y243) ∧ (VV w' w (fun k_ => (P1_ k_ ∨ w.heap.size ≤ k_) ∧ NB (.slice Ao19 y196.length co19) k_ ∧ NB (.slice Ao24 y200.length co24) k_ ∧ NB v204 k_ ∧ NB s_.1 k_ ∧ NB s_.2.1 k_ ∧ NB s_.2.2 k_ ∧ k_ ≠ gb194) (.slice A1 l1.length c1) l1) ∧ (w'.heap[gb194]? = some (.cells (tabC a0_0) 24 (0, 0))) ∧ (Below w.heap.size w w')) ?_ ?_
        rotate_left
        ·intro hJ5_6_14_15_29
         refine join_ (σ := Value × Value) 13 tq29 (fun s_ => [(45, s_.1), (46, .int .u32 t214), (54, s_.2), (55, .int .u32 t228), (57, .bool false), (58, .bool false), (59, .agg (tabC a0_0)), (60, .agg (tabC a0_0)), (61, .slice A1 l1.length c1), (62, .int .i64 a3), (63, .slice A1 y229.length c1), (66, .slice A1 l1.length c1), (67, .int .i64 a3), (68, .slice A47 y220.length c47), (71, .int .u32 t199)]) (fun s_ w' => (w'.heap[gb194]? = some (.cells (tabC a0_0) 24 (0, 0))) ∧ (VN w' w (fun k_ => (P1_ k_ ∨ w.heap.size ≤ k_) ∧ NB (.slice Ao24 y200.length co24) k_ ∧ NB v204 k_ ∧ NB s_.1 k_ ∧ NB s_.2 k_ ∧ k_ ≠ gb194) (.slice Ao19 y196.length co19) y196) ∧ (VN w' w (fun k_ => (P1_ k_ ∨ w.heap.size ≤ k_) ∧ NB (.slice Ao19 y196.length co19) k_ ∧ NB v204 k_ ∧ NB s_.1 k_ ∧ NB s_.2 k_ ∧ k_ ≠ gb194) (.slice Ao24 y200.length co24) y200) ∧ (Kd.R (Kd.int .u8) 5 w' w.heap.size (fun k_ => (w.heap.size ≤ k_)) v204 t203) ∧ (VV w' w (fun k_ => (P1_ k_ ∨ w.heap.size ≤ k_) ∧ NB (.slice Ao19 y196.length co19) k_ ∧ NB (.slice Ao24 y200.length co24) k_ ∧ NB v204 k_ ∧ NB s_.1 k_ ∧ NB s_.2 k_ ∧ k_ ≠ gb194) (.slice A1 y206.length c1) y206) ∧ (VN w' w (fun k_ => (P1_ k_ ∨ w.heap.size ≤ k_) ∧ NB (.slice Ao19 y196.length co19) k_ ∧ NB (.slice Ao24 y200.length co24) k_ ∧ NB v204 k_ ∧ NB s_.2 k_ ∧ k_ ≠ gb194) s_.1 y211) ∧ (VV w' w (fun k_ => (P1_ k_ ∨ w.heap.size ≤ k_) ∧ NB (.slice Ao19 y196.length co19) k_ ∧ NB (.slice Ao24 y200.length co24) k_ ∧ NB v204 k_ ∧ NB s_.1 k_ ∧ NB s_.2 k_ ∧ k_ ≠ gb194) (.slice A46 y215.length c46) y215) ∧ (VV w' w (fun k_ => (P1_ k_ ∨ w.heap.size ≤ k_) ∧ NB (.slice Ao19 y196.length co19) k_ ∧ NB (.slice Ao24 y200.length co24) k_ ∧ NB v204 k_ ∧ NB s_.1 k_ ∧ NB s_.2 k_ ∧ k_ ≠ gb194) (.slice A47 y220.length c47) y220) ∧ (VN w' w (fun k_ => (P1_ k_ ∨ w.heap.size ≤ k_) ∧ NB (.slice Ao19 y196.length co19) k_ ∧ NB (.slice Ao24 y200.length co24) k_ ∧ NB v204 k_ ∧ NB s_.1 k_ ∧ k_ ≠ gb194) s_.2 y225) ∧ (VV w' w (fun k_ => (P1_ k_ ∨ w.heap.size ≤ k_) ∧ NB (.slice Ao19 y196.length co19) k_ ∧ NB (.slice Ao24 y200.length co24) k_ ∧ NB v204 k_ ∧ NB s_.1 k_ ∧ NB s_.2 k_ ∧ k_ ≠ gb194) (.slice A1 y229.length c1) y229) ∧ (VV w' w (fun k_ => (P1_ k_ ∨ w.heap.size ≤ k_) ∧ NB (.slice Ao19 y196.length co19) k_ ∧ NB (.slice Ao24 y200.length co24) k_ ∧ NB v204 k_ ∧ NB s_.1 k_ ∧ NB s_.2 k_ ∧ k_ ≠ gb194) (.slice A1 l1.length c1) l1) ∧ (w'.heap[gb194]? = some (.cells (tabC a0_0) 24 (0, 0))) ∧ (Below w.heap.size w w')) ?_ ?_
         rotate_left
         ·intro hJ5_6_14_15
          refine join_ (σ := Value × Value) 25 tq53 (fun s_ => [(45, s_.1), (46, .int .u32 t214), (54, s_.2)]) (fun s_ w' => (w'.heap[gb194]? = some (.cells (tabC a0_0) 24 (0, 0))) ∧ (VN w' w (fun k_ => (P1_ k_ ∨ w.heap.size ≤ k_) ∧ NB (.slice Ao24 y200.length co24) k_ ∧ NB v204 k_ ∧ NB s_.1 k_ ∧ NB s_.2 k_ ∧ k_ ≠ gb194) (.slice Ao19 y196.length co19) y196) ∧ (VN w' w (fun k_ => (P1_ k_ ∨ w.heap.size ≤ k_) ∧ NB (.slice Ao19 y196.length co19) k_ ∧ NB v204 k_ ∧ NB s_.1 k_ ∧ NB s_.2 k_ ∧ k_ ≠ gb194) (.slice Ao24 y200.length co24) y200) ∧ (Kd.R (Kd.int .u8) 5 w' w.heap.size (fun k_ => (w.heap.size ≤ k_)) v204 t203) ∧ (VV w' w (fun k_ => (P1_ k_ ∨ w.heap.size ≤ k_) ∧ NB (.slice Ao19 y196.length co19) k_ ∧ NB (.slice Ao24 y200.length co24) k_ ∧ NB v204 k_ ∧ NB s_.1 k_ ∧ NB s_.2 k_ ∧ k_ ≠ gb194) (.slice A1 y206.length c1) y206) ∧ (VN w' w (fun k_ => (P1_ k_ ∨ w.heap.size ≤ k_) ∧ NB (.slice Ao19 y196.length co19) k_ ∧ NB (.slice Ao24 y200.length co24) k_ ∧ NB v204 k_ ∧ NB s_.2 k_ ∧ k_ ≠ gb194) s_.1 y211) ∧ (VV w' w (fun k_ => (P1_ k_ ∨ w.heap.size ≤ k_) ∧ NB (.slice Ao19 y196.length co19) k_ ∧ NB (.slice Ao24 y200.length co24) k_ ∧ NB v204 k_ ∧ NB s_.1 k_ ∧ NB s_.2 k_ ∧ k_ ≠ gb194) (.slice A46 y215.length c46) y215) ∧ (VV w' w (fun k_ => (P1_ k_ ∨ w.heap.size ≤ k_) ∧ NB (.slice Ao19 y196.length co19) k_ ∧ NB (.slice Ao24 y200.length co24) k_ ∧ NB v204 k_ ∧ NB s_.1 k_ ∧ NB s_.2 k_ ∧ k_ ≠ gb194) (.slice A47 y220.length c47) y220) ∧ (VN w' w (fun k_ => (P1_ k_ ∨ w.heap.size ≤ k_) ∧ NB (.slice Ao19 y196.length co19) k_ ∧ NB (.slice Ao24 y200.length co24) k_ ∧ NB v204 k_ ∧ NB s_.1 k_ ∧ k_ ≠ gb194) s_.2 y225) ∧ (VV w' w (fun k_ => (P1_ k_ ∨ w.heap.size ≤ k_) ∧ NB (.slice Ao19 y196.length co19) k_ ∧ NB (.slice Ao24 y200.length co24) k_ ∧ NB v204 k_ ∧ NB s_.1 k_ ∧ NB s_.2 k_ ∧ k_ ≠ gb194) (.slice A1 y229.length c1) y229) ∧ (VV w' w (fun k_ => (P1_ k_ ∨ w.heap.size ≤ k_) ∧ NB (.slice Ao19 y196.length co19) k_ ∧ NB (.slice Ao24 y200.length co24) k_ ∧ NB v204 k_ ∧ NB s_.1 k_ ∧ NB s_.2 k_ ∧ k_ ≠ gb194) (.slice A1 l1.length c1) l1) ∧ (w'.heap[gb194]? = some (.cells (tabC a0_0) 24 (0, 0))) ∧ (Below w.heap.size w w')) ?_ ?_
          rotate_left
          ·intro hJ5_6_14
           refine join_ (σ := Value) 26 tq56 (fun s_ => [(45, s_), (46, .int .u32 t214)]) (fun s_ w' => (w'.heap[gb194]? = some (.cells (tabC a0_0) 24 (0, 0))) ∧ (VN w' w (fun k_ => (P1_ k_ ∨ w.heap.size ≤ k_) ∧ NB (.slice Ao24 y200.length co24) k_ ∧ NB v204 k_ ∧ NB s_ k_ ∧ k_ ≠ gb194) (.slice Ao19 y196.length co19) y196) ∧ (VN w' w (fun k_ => (P1_ k_ ∨ w.heap.size ≤ k_) ∧ NB (.slice Ao19 y196.length co19) k_ ∧ NB v204 k_ ∧ NB s_ k_ ∧ k_ ≠ gb194) (.slice Ao24 y200.length co24) y200) ∧ (Kd.R (Kd.int .u8) 5 w' w.heap.size (fun k_ => (w.heap.size ≤ k_)) v204 t203) ∧ (VV w' w (fun k_ => (P1_ k_ ∨ w.heap.size ≤ k_) ∧ NB (.slice Ao19 y196.length co19) k_ ∧ NB (.slice Ao24 y200.length co24) k_ ∧ NB v204 k_ ∧ NB s_ k_ ∧ k_ ≠ gb194) (.slice A1 y206.length c1) y206) ∧ (VN w' w (fun k_ => (P1_ k_ ∨ w.heap.size ≤ k_) ∧ NB (.slice Ao19 y196.length co19) k_ ∧ NB (.slice Ao24 y200.length co24) k_ ∧ NB v204 k_ ∧ k_ ≠ gb194) s_ y211) ∧ (VV w' w (fun k_ => (P1_ k_ ∨ w.heap.size ≤ k_) ∧ NB (.slice Ao19 y196.length co19) k_ ∧ NB (.slice Ao24 y200.length co24) k_ ∧ NB v204 k_ ∧ NB s_ k_ ∧ k_ ≠ gb194) (.slice A46 y215.length c46) y215) ∧ (VV w' w (fun k_ => (P1_ k_ ∨ w.heap.size ≤ k_) ∧ NB (.slice Ao19 y196.length co19) k_ ∧ NB (.slice Ao24 y200.length co24) k_ ∧ NB v204 k_ ∧ NB s_ k_ ∧ k_ ≠ gb194) (.slice A47 y220.length c47) y220) ∧ (VV w' w (fun k_ => (P1_ k_ ∨ w.heap.size ≤ k_) ∧ NB (.slice Ao19 y196.length co19) k_ ∧ NB (.slice Ao24 y200.length co24) k_ ∧ NB v204 k_ ∧ NB s_ k_ ∧ k_ ≠ gb194) (.slice A1 y229.length c1) y229) ∧ (VV w' w (fun k_ => (P1_ k_ ∨ w.heap.size ≤ k_) ∧ NB (.slice Ao19 y196.length co19) k_ ∧ NB (.slice Ao24 y200.length co24) k_ ∧ NB v204 k_ ∧ NB s_ k_ ∧ k_ ≠ gb194) (.slice A1 l1.length c1) l1) ∧ (w'.heap[gb194]? = some (.cells (tabC a0_0) 24 (0, 0))) ∧ (Below w.heap.size w w')) ?_ ?_
           rotate_left
           ·intro hJ5_6
            refine join_ (σ := Value × Value) 26 tq55 (fun s_ => [(45, s_.1), (54, s_.2)]) (fun s_ w' => (w'.heap[gb194]? = some (.cells (tabC a0_0) 24 (0, 0))) ∧ (VN w' w (fun k_ => (P1_ k_ ∨ w.heap.size ≤ k_) ∧ NB (.slice Ao24 y200.length co24) k_ ∧ NB v204 k_ ∧ NB s_.1 k_ ∧ NB s_.2 k_ ∧ k_ ≠ gb194) (.slice Ao19 y196.length co19) y196) ∧ (VN w' w (fun k_ => (P1_ k_ ∨ w.heap.size ≤ k_) ∧ NB (.slice Ao19 y196.length co19) k_ ∧ NB v204 k_ ∧ NB s_.1 k_ ∧ NB s_.2 k_ ∧ k_ ≠ gb194) (.slice Ao24 y200.length co24) y200) ∧ (Kd.R (Kd.int .u8) 5 w' w.heap.size (fun k_ => (w.heap.size ≤ k_)) v204 t203) ∧ (VV w' w (fun k_ => (P1_ k_ ∨ w.heap.size ≤ k_) ∧ NB (.slice Ao19 y196.length co19) k_ ∧ NB (.slice Ao24 y200.length co24) k_ ∧ NB v204 k_ ∧ NB s_.1 k_ ∧ NB s_.2 k_ ∧ k_ ≠ gb194) (.slice A1 y206.length c1) y206) ∧ (VN w' w (fun k_ => (P1_ k_ ∨ w.heap.size ≤ k_) ∧ NB (.slice Ao19 y196.length co19) k_ ∧ NB (.slice Ao24 y200.length co24) k_ ∧ NB v204 k_ ∧ NB s_.2 k_ ∧ k_ ≠ gb194) s_.1 y211) ∧ (VV w' w (fun k_ => (P1_ k_ ∨ w.heap.size ≤ k_) ∧ NB (.slice Ao19 y196.length co19) k_ ∧ NB (.slice Ao24 y200.length co24) k_ ∧ NB v204 k_ ∧ NB s_.1 k_ ∧ NB s_.2 k_ ∧ k_ ≠ gb194) (.slice A46 y215.length c46) y215) ∧ (VV w' w (fun k_ => (P1_ k_ ∨ w.heap.size ≤ k_) ∧ NB (.slice Ao19 y196.length co19) k_ ∧ NB (.slice Ao24 y200.length co24) k_ ∧ NB v204 k_ ∧ NB s_.1 k_ ∧ NB s_.2 k_ ∧ k_ ≠ gb194) (.slice A47 y220.length c47) y220) ∧ (VN w' w (fun k_ => (P1_ k_ ∨ w.heap.size ≤ k_) ∧ NB (.slice Ao19 y196.length co19) k_ ∧ NB (.slice Ao24 y200.length co24) k_ ∧ NB v204 k_ ∧ NB s_.1 k_ ∧ k_ ≠ gb194) s_.2 y225) ∧ (VV w' w (fun k_ => (P1_ k_ ∨ w.heap.size ≤ k_) ∧ NB (.slice Ao19 y196.length co19) k_ ∧ NB (.slice Ao24 y200.length co24) k_ ∧ NB v204 k_ ∧ NB s_.1 k_ ∧ NB s_.2 k_ ∧ k_ ≠ gb194) (.slice A1 y229.length c1) y229) ∧ (VV w' w (fun k_ => (P1_ k_ ∨ w.heap.size ≤ k_) ∧ NB (.slice Ao19 y196.length co19) k_ ∧ NB (.slice Ao24 y200.length co24) k_ ∧ NB v204 k_ ∧ NB s_.1 k_ ∧ NB s_.2 k_ ∧ k_ ≠ gb194) (.slice A1 l1.length c1) l1) ∧ (w'.heap[gb194]? = some (.cells (tabC a0_0) 24 (0, 0))) ∧ (Below w.heap.size w w')) ?_ ?_
            rotate_left
            ·intro hJ5_14
             refine join_ (σ := Value) 27 tq59 (fun s_ => [(45, s_)]) (fun s_ w' => (w'.heap[gb194]? = some (.cells (tabC a0_0) 24 (0, 0))) ∧ (VN w' w (fun k_ => (P1_ k_ ∨ w.heap.size ≤ k_) ∧ NB (.slice Ao24 y200.length co24) k_ ∧ NB v204 k_ ∧ NB s_ k_ ∧ k_ ≠ gb194) (.slice Ao19 y196.length co19) y196) ∧ (VN w' w (fun k_ => (P1_ k_ ∨ w.heap.size ≤ k_) ∧ NB (.slice Ao19 y196.length co19) k_ ∧ NB v204 k_ ∧ NB s_ k_ ∧ k_ ≠ gb194) (.slice Ao24 y200.length co24) y200) ∧ (Kd.R (Kd.int .u8) 5 w' w.heap.size (fun k_ => (w.heap.size ≤ k_)) v204 t203) ∧ (VV w' w (fun k_ => (P1_ k_ ∨ w.heap.size ≤ k_) ∧ NB (.slice Ao19 y196.length co19) k_ ∧ NB (.slice Ao24 y200.length co24) k_ ∧ NB v204 k_ ∧ NB s_ k_ ∧ k_ ≠ gb194) (.slice A1 y206.length c1) y206) ∧ (VN w' w (fun k_ => (P1_ k_ ∨ w.heap.size ≤ k_) ∧ NB (.slice Ao19 y196.length co19) k_ ∧ NB (.slice Ao24 y200.length co24) k_ ∧ NB v204 k_ ∧ k_ ≠ gb194) s_ y211) ∧ (VV w' w (fun k_ => (P1_ k_ ∨ w.heap.size ≤ k_) ∧ NB (.slice Ao19 y196.length co19) k_ ∧ NB (.slice Ao24 y200.length co24) k_ ∧ NB v204 k_ ∧ NB s_ k_ ∧ k_ ≠ gb194) (.slice A46 y215.length c46) y215) ∧ (VV w' w (fun k_ => (P1_ k_ ∨ w.heap.size ≤ k_) ∧ NB (.slice Ao19 y196.length co19) k_ ∧ NB (.slice Ao24 y200.length co24) k_ ∧ NB v204 k_ ∧ NB s_ k_ ∧ k_ ≠ gb194) (.slice A47 y220.length c47) y220) ∧ (VV w' w (fun k_ => (P1_ k_ ∨ w.heap.size ≤ k_) ∧ NB (.slice Ao19 y196.length co19) k_ ∧ NB (.slice Ao24 y200.length co24) k_ ∧ NB v204 k_ ∧ NB s_ k_ ∧ k_ ≠ gb194) (.slice A1 y229.length c1) y229) ∧ (VV w' w (fun k_ => (P1_ k_ ∨ w.heap.size ≤ k_) ∧ NB (.slice Ao19 y196.length co19) k_ ∧ NB (.slice Ao24 y200.length co24) k_ ∧ NB v204 k_ ∧ NB s_ k_ ∧ k_ ≠ gb194) (.slice A1 l1.length c1) l1) ∧ (w'.heap[gb194]? = some (.cells (tabC a0_0) 24 (0, 0))) ∧ (Below w.heap.size w w')) ?_ ?_
             rotate_left
             ·intro hJ5
              refine join_ (σ := Value) 27 tq58 (fun s_ => [(54, s_)]) (fun s_ w' => (w'.heap[gb194]? = some (.cells (tabC a0_0) 24 (0, 0))) ∧ (VN w' w (fun k_ => (P1_ k_ ∨ w.heap.size ≤ k_) ∧ NB (.slice Ao24 y200.length co24) k_ ∧ NB v204 k_ ∧ NB s_ k_ ∧ k_ ≠ gb194) (.slice Ao19 y196.length co19) y196) ∧ (VN w' w (fun k_ => (P1_ k_ ∨ w.heap.size ≤ k_) ∧ NB (.slice Ao19 y196.length co19) k_ ∧ NB v204 k_ ∧ NB s_ k_ ∧ k_ ≠ gb194) (.slice Ao24 y200.length co24) y200) ∧ (Kd.R (Kd.int .u8) 5 w' w.heap.size (fun k_ => (w.heap.size ≤ k_)) v204 t203) ∧ (VV w' w (fun k_ => (P1_ k_ ∨ w.heap.size ≤ k_) ∧ NB (.slice Ao19 y196.length co19) k_ ∧ NB (.slice Ao24 y200.length co24) k_ ∧ NB v204 k_ ∧ NB s_ k_ ∧ k_ ≠ gb194) (.slice A1 y206.length c1) y206) ∧ (VV w' w (fun k_ => (P1_ k_ ∨ w.heap.size ≤ k_) ∧ NB (.slice Ao19 y196.length co19) k_ ∧ NB (.slice Ao24 y200.length co24) k_ ∧ NB v204 k_ ∧ NB s_ k_ ∧ k_ ≠ gb194) (.slice A46 y215.length c46) y215) ∧ (VV w' w (fun k_ => (P1_ k_ ∨ w.heap.size ≤ k_) ∧ NB (.slice Ao19 y196.length co19) k_ ∧ NB (.slice Ao24 y200.length co24) k_ ∧ NB v204 k_ ∧ NB s_ k_ ∧ k_ ≠ gb194) (.slice A47 y220.length c47) y220) ∧ (VN w' w (fun k_ => (P1_ k_ ∨ w.heap.size ≤ k_) ∧ NB (.slice Ao19 y196.length co19) k_ ∧ NB (.slice Ao24 y200.length co24) k_ ∧ NB v204 k_ ∧ k_ ≠ gb194) s_ y225) ∧ (VV w' w (fun k_ => (P1_ k_ ∨ w.heap.size ≤ k_) ∧ NB (.slice Ao19 y196.length co19) k_ ∧ NB (.slice Ao24 y200.length co24) k_ ∧ NB v204 k_ ∧ NB s_ k_ ∧ k_ ≠ gb194) (.slice A1 y229.length c1) y229) ∧ (VV w' w (fun k_ => (P1_ k_ ∨ w.heap.size ≤ k_) ∧ NB (.slice Ao19 y196.length co19) k_ ∧ NB (.slice Ao24 y200.length co24) k_ ∧ NB v204 k_ ∧ NB s_ k_ ∧ k_ ≠ gb194) (.slice A1 l1.length c1) l1) ∧ (w'.heap[gb194]? = some (.cells (tabC a0_0) 24 (0, 0))) ∧ (Below w.heap.size w w')) ?_ ?_
              rotate_left
              ·intro hJ14
               refine two_ (i := 5) (j := 14) (Ni := some 45) (Nj := some 54) tq59 tq58 rfl rfl rfl rfl (two_of HT_.out (by kernel_rfl)) (by decide) (by decide) (fun K hK => ?_) (fun K hK => ?_)
               ·skip
                refine lit1 (N' := 45) ?hd (ok := (fun k_ => (P1_ k_ ∨ w.heap.size ≤ k_) ∧ NB (.slice Ao19 y196.length co19) k_ ∧ NB (.slice Ao24 y200.length co24) k_ ∧ NB v204 k_ ∧ k_ ≠ gb194)) (Kd.V_mono (HO210.out) (fun k_ hk => ⟨hk.1.1.1.1, hk.1.1.2, hk.1.2, hk.2, hk.1.1.1.2⟩)) (fun k_ hk => ⟨.inr (fW HB hk), fN HO198 hk, fN HO202 hk, Kd.fresh' (Kd.R_lt HO205.out) k_ hk, fB BK194 hk⟩) ?hr HB.out ?_; (case hd => rfl); (case hr => first | (go_simp; done) | (go_simp; rfl))
                intro v212 w49 ho50 hb hg_ hnew_
                clear hg_ hnew_
                rw [← Ny211.out] at ho50
                have HO213 := nL ho50 HB
                replace HO_1 := vE HO_1 ho50 hb
                replace HO198 := nE HO198 ho50 hb
                replace HO202 := nE HO202 ho50 hb
                replace HO205 := rB HO205 hb
                replace HO210 := vE HO210 ho50 hb
                replace HO219 := vE HO219 ho50 hb
                replace HO224 := vE HO224 ho50 hb
                replace HO233 := vE HO233 ho50 hb
                replace BK194 := bB BK194 hb
                replace HB := hB HB hb
                clear hb ho50
                refine hK.out _ _ (BK194.out) (fun hHeld => ?_)
                clear hK K
                refine norm_ (a' := ?_) ?_ ?_
                rotate_left
                ·show Act.put _ (some 45) _ = _
                 simp only [Act.put, sA, sZ, sS, i64_w, i32_w]
                 rfl
                exact norm_ (by simp only [putAll, Act.put, sA, sZ, sS] <;> rfl) (hJ5 (v212) _ ⟨hHeld, (Kd.N_mono HO198.out (fun _ hk => ⟨hk.1.1.1.1, hk.1.1.2, hk.1.2, hk.2, hk.1.1.1.2⟩)), (Kd.N_mono HO202.out (fun _ hk => ⟨hk.1.1.1, hk.1.1.2.1, hk.1.2, hk.2, hk.1.1.2.2⟩)), (Kd.R_mono HO205.out (fun _ hk => hk.1)), (Kd.V_mono HO210.out (fun _ hk => ⟨hk.1.1.1.1.1, hk.1.1.1.2, hk.1.1.2, hk.1.2, hk.2, hk.1.1.1.1.2⟩)), HO213.out, (Kd.V_mono HO219.out (fun _ hk => ⟨hk.1.1.1.1.1, hk.1.1.1.2, hk.1.1.2, hk.1.2, hk.2, hk.1.1.1.1.2⟩)), (Kd.V_mono HO224.out (fun _ hk => ⟨hk.1.1.1.1.1, hk.1.1.1.2, hk.1.1.2, hk.1.2, hk.2, hk.1.1.1.1.2⟩)), (Kd.V_mono HO233.out (fun _ hk => ⟨hk.1.1.1.1.1, hk.1.1.1.2, hk.1.1.2, hk.1.2, hk.2, hk.1.1.1.1.2⟩)), (Kd.V_mono HO_1.out (fun _ hk => ⟨hk.1.1.1.1.1, hk.1.1.1.2, hk.1.1.2, hk.1.2, hk.2, hk.1.1.1.1.2⟩)), BK194.out, HB.out⟩)
               skip
               refine Kd.N_lit_step (Kd.slice 5 (Kd.int .u8)) _ 28 ?hg (N' := 54) ?hd (xs := ([y215, y220] : List (List Int))) (inner := [.slice A46 y215.length c46, .slice A47 y220.length c47]) (ok := (fun k_ => (P1_ k_ ∨ w.heap.size ≤ k_) ∧ NB (.slice Ao19 y196.length co19) k_ ∧ NB (.slice Ao24 y200.length co24) k_ ∧ NB v204 k_ ∧ k_ ≠ gb194)) (okp := (fun k_ => (P1_ k_ ∨ w.heap.size ≤ k_) ∧ NB (.slice Ao19 y196.length co19) k_ ∧ NB (.slice Ao24 y200.length co24) k_ ∧ NB v204 k_ ∧ k_ ≠ gb194)) ?hr ?hp (fun _ hk => hk) ((show ∀ k_, w44.heap.size ≤ k_ → (fun k_ => (P1_ k_ ∨ w.heap.size ≤ k_) ∧ NB (.slice Ao19 y196.length co19) k_ ∧ NB (.slice Ao24 y200.length co24) k_ ∧ NB v204 k_ ∧ k_ ≠ gb194) k_ from fun k_ hk => ⟨.inr (fW HB hk), fN HO198 hk, fN HO202 hk, Kd.fresh' (Kd.R_lt HO205.out) k_ hk, fB BK194 hk⟩) _ (Nat.le_refl _)) (Below.refl _ _) (Nat.le_refl _) (by simp) ?_; (case hd => rfl); (case hg => rfl); (case hr => first | (go_simp; done) | (go_simp; rfl)); (case hp => exact (Reps.one (show Kd.FK (Kd.slice 5 (Kd.int .u8)) _ _ y215 [.slice A46 y215.length c46] from (Kd.FK_slice_mk (Kd.V_reads' (Kd.V_mono (ok' := (fun k_ => (P1_ k_ ∨ w.heap.size ≤ k_) ∧ NB (.slice Ao19 y196.length co19) k_ ∧ NB (.slice Ao24 y200.length co24) k_ ∧ NB v204 k_ ∧ k_ ≠ gb194)) (HO219.out) (fun k_ hk => ⟨hk.1.1.1.1, hk.1.1.2, hk.1.2, hk.2, hk.1.1.1.2⟩))).2.1 (Kd.V_F (Kd.V_mono (ok' := (fun k_ => (P1_ k_ ∨ w.heap.size ≤ k_) ∧ NB (.slice Ao19 y196.length co19) k_ ∧ NB (.slice Ao24 y200.length co24) k_ ∧ NB v204 k_ ∧ k_ ≠ gb194)) (HO219.out) (fun k_ hk => ⟨hk.1.1.1.1, hk.1.1.2, hk.1.2, hk.2, hk.1.1.1.2⟩))))) (Reps.one (show Kd.FK (Kd.slice 5 (Kd.int .u8)) _ _ y220 [.slice A47 y220.length c47] from (Kd.FK_slice_mk (Kd.V_reads' (Kd.V_mono (ok' := (fun k_ => (P1_ k_ ∨ w.heap.size ≤ k_) ∧ NB (.slice Ao19 y196.length co19) k_ ∧ NB (.slice Ao24 y200.length co24) k_ ∧ NB v204 k_ ∧ k_ ≠ gb194)) (HO224.out) (fun k_ hk => ⟨hk.1.1.1.1, hk.1.1.2, hk.1.2, hk.2, hk.1.1.1.2⟩))).2.1 (Kd.V_F (Kd.V_mono (ok' := (fun k_ => (P1_ k_ ∨ w.heap.size ≤ k_) ∧ NB (.slice Ao19 y196.length co19) k_ ∧ NB (.slice Ao24 y200.length co24) k_ ∧ NB v204 k_ ∧ k_ ≠ gb194)) (HO224.out) (fun k_ hk => ⟨hk.1.1.1.1, hk.1.1.2, hk.1.2, hk.2, hk.1.1.1.2⟩))))) (Reps.none _ _))))
               intro v226 w49 ho50 hb hg_ hnew_
               clear hg_ hnew_
               rw [← Ny225.out] at ho50
               have HO227 := nL ho50 HB
               replace HO_1 := vE HO_1 ho50 hb
               replace HO198 := nE HO198 ho50 hb
               replace HO202 := nE HO202 ho50 hb
               replace HO205 := rB HO205 hb
               replace HO210 := vE HO210 ho50 hb
               replace HO219 := vE HO219 ho50 hb
               replace HO224 := vE HO224 ho50 hb
               replace HO233 := vE HO233 ho50 hb
               replace BK194 := bB BK194 hb
               replace HB := hB HB hb
               clear hb ho50
               refine hK.out _ _ (BK194.out) (fun hHeld => ?_)
               clear hK K
               refine norm_ (a' := ?_) ?_ ?_
               rotate_left
               ·show Act.put _ (some 54) _ = _
                simp only [Act.put, sA, sZ, sS, i64_w, i32_w]
                rfl
               exact norm_ (by simp only [putAll, Act.put, sA, sZ, sS] <;> rfl) (hJ14 (v226) _ ⟨hHeld, (Kd.N_mono HO198.out (fun _ hk => ⟨hk.1.1.1.1, hk.1.1.2, hk.1.2, hk.2, hk.1.1.1.2⟩)), (Kd.N_mono HO202.out (fun _ hk => ⟨hk.1.1.1, hk.1.1.2.1, hk.1.2, hk.2, hk.1.1.2.2⟩)), (Kd.R_mono HO205.out (fun _ hk => hk.1)), (Kd.V_mono HO210.out (fun _ hk => ⟨hk.1.1.1.1.1, hk.1.1.1.2, hk.1.1.2, hk.1.2, hk.2, hk.1.1.1.1.2⟩)), (Kd.V_mono HO219.out (fun _ hk => ⟨hk.1.1.1.1.1, hk.1.1.1.2, hk.1.1.2, hk.1.2, hk.2, hk.1.1.1.1.2⟩)), (Kd.V_mono HO224.out (fun _ hk => ⟨hk.1.1.1.1.1, hk.1.1.1.2, hk.1.1.2, hk.1.2, hk.2, hk.1.1.1.1.2⟩)), HO227.out, (Kd.V_mono HO233.out (fun _ hk => ⟨hk.1.1.1.1.1, hk.1.1.1.2, hk.1.1.2, hk.1.2, hk.2, hk.1.1.1.1.2⟩)), (Kd.V_mono HO_1.out (fun _ hk => ⟨hk.1.1.1.1.1, hk.1.1.1.2, hk.1.1.2, hk.1.2, hk.2, hk.1.1.1.1.2⟩)), BK194.out, HB.out⟩)
              skip
              rintro v226 w51 ⟨hS_, h0_, h1_, h2_, h3_, h4_, h5_, h6_, h7_, h8_, h9_, h10_⟩
              have n0_ : Aside0 (VN w51 w (fun k_ => (P1_ k_ ∨ w.heap.size ≤ k_) ∧ NB (.slice Ao24 y200.length co24) k_ ∧ NB v204 k_ ∧ NB v226 k_ ∧ k_ ≠ gb194) (.slice Ao19 y196.length co19) y196) := ⟨h0_⟩
              have n1_ : Aside0 (VN w51 w (fun k_ => (P1_ k_ ∨ w.heap.size ≤ k_) ∧ NB (.slice Ao19 y196.length co19) k_ ∧ NB v204 k_ ∧ NB v226 k_ ∧ k_ ≠ gb194) (.slice Ao24 y200.length co24) y200) := ⟨h1_⟩
              have n2_ : Aside0 (Kd.R (Kd.int .u8) 5 w51 w.heap.size (fun k_ => (w.heap.size ≤ k_)) v204 t203) := ⟨h2_⟩
              have n3_ : Aside0 (VV w51 w (fun k_ => (P1_ k_ ∨ w.heap.size ≤ k_) ∧ NB (.slice Ao19 y196.length co19) k_ ∧ NB (.slice Ao24 y200.length co24) k_ ∧ NB v204 k_ ∧ NB v226 k_ ∧ k_ ≠ gb194) (.slice A1 y206.length c1) y206) := ⟨h3_⟩
              have n4_ : Aside0 (VV w51 w (fun k_ => (P1_ k_ ∨ w.heap.size ≤ k_) ∧ NB (.slice Ao19 y196.length co19) k_ ∧ NB (.slice Ao24 y200.length co24) k_ ∧ NB v204 k_ ∧ NB v226 k_ ∧ k_ ≠ gb194) (.slice A46 y215.length c46) y215) := ⟨h4_⟩
              have n5_ : Aside0 (VV w51 w (fun k_ => (P1_ k_ ∨ w.heap.size ≤ k_) ∧ NB (.slice Ao19 y196.length co19) k_ ∧ NB (.slice Ao24 y200.length co24) k_ ∧ NB v204 k_ ∧ NB v226 k_ ∧ k_ ≠ gb194) (.slice A47 y220.length c47) y220) := ⟨h5_⟩
              have n6_ : Aside0 (VN w51 w (fun k_ => (P1_ k_ ∨ w.heap.size ≤ k_) ∧ NB (.slice Ao19 y196.length co19) k_ ∧ NB (.slice Ao24 y200.length co24) k_ ∧ NB v204 k_ ∧ k_ ≠ gb194) v226 y225) := ⟨h6_⟩
              have n7_ : Aside0 (VV w51 w (fun k_ => (P1_ k_ ∨ w.heap.size ≤ k_) ∧ NB (.slice Ao19 y196.length co19) k_ ∧ NB (.slice Ao24 y200.length co24) k_ ∧ NB v204 k_ ∧ NB v226 k_ ∧ k_ ≠ gb194) (.slice A1 y229.length c1) y229) := ⟨h7_⟩
              have n8_ : Aside0 (VV w51 w (fun k_ => (P1_ k_ ∨ w.heap.size ≤ k_) ∧ NB (.slice Ao19 y196.length co19) k_ ∧ NB (.slice Ao24 y200.length co24) k_ ∧ NB v204 k_ ∧ NB v226 k_ ∧ k_ ≠ gb194) (.slice A1 l1.length c1) l1) := ⟨h8_⟩
              have n9_ : Aside0 (w51.heap[gb194]? = some (.cells (tabC a0_0) 24 (0, 0))) := ⟨h9_⟩
              have n10_ : Aside0 (Below w.heap.size w w51) := ⟨h10_⟩
              clear HO_1
              clear HO198
              clear HO202
              clear HO205
              clear BK194
              clear HB
              clear h0_ h1_ h2_ h3_ h4_ h5_ h6_ h7_ h8_ h9_ h10_
              have HO198 := n0_
              have HO202 := n1_
              have HO205 := n2_
              have HO210 := n3_
              have HO219 := n4_
              have HO224 := n5_
              have HO227 := n6_
              have HO233 := n7_
              have HO_1 := n8_
              have BK194 := n9_
              have HB := n10_
              clear n0_ n1_ n2_ n3_ n4_ n5_ n6_ n7_ n8_ n9_ n10_
              have hHeld : w51.heap[gb194]? = some (.cells (tabC a0_0) 24 (0, 0)) := hS_
              refine norm_ (a' := ?_) ?_ ?_
              rotate_left
              ·simp only [putAll, Act.put, sA, sZ, sS]
               rfl
              refine one_ (i := 5) (N := some 45) tq55 rfl rfl (one_of HT_.out (by kernel_rfl)) (by decide) (fun K hK => ?_)
              refine lit1 (N' := 45) ?hd (ok := (fun k_ => (P1_ k_ ∨ w.heap.size ≤ k_) ∧ NB (.slice Ao19 y196.length co19) k_ ∧ NB (.slice Ao24 y200.length co24) k_ ∧ NB v204 k_ ∧ NB v226 k_ ∧ k_ ≠ gb194)) (Kd.V_mono (HO210.out) (fun k_ hk => ⟨hk.1, hk.2.1, hk.2.2.1, hk.2.2.2.1, hk.2.2.2.2.1, hk.2.2.2.2.2⟩)) (fun k_ hk => ⟨.inr (fW HB hk), fN HO198 hk, fN HO202 hk, Kd.fresh' (Kd.R_lt HO205.out) k_ hk, fN HO227 hk, fB BK194 hk⟩) ?hr HB.out ?_; (case hd => rfl); (case hr => first | (go_simp; done) | (go_simp; rfl))
              intro v212 w52 ho53 hb hg_ hnew_
              clear hg_ hnew_
              rw [← Ny211.out] at ho53
              have HO213 := nL ho53 HB
              replace HO_1 := vE HO_1 ho53 hb
              replace HO198 := nE HO198 ho53 hb
              replace HO202 := nE HO202 ho53 hb
              replace HO205 := rB HO205 hb
              replace HO210 := vE HO210 ho53 hb
              replace HO219 := vE HO219 ho53 hb
              replace HO224 := vE HO224 ho53 hb
              replace HO233 := vE HO233 ho53 hb
              replace HO227 := nE HO227 ho53 hb
              replace BK194 := bB BK194 hb
              replace HB := hB HB hb
              clear hb ho53
              refine hK.out _ _ (BK194.out) (fun hHeld => ?_)
              clear hK K
              refine norm_ (a' := ?_) ?_ ?_
              rotate_left
              ·show Act.put _ (some 45) _ = _
               simp only [Act.put, sA, sZ, sS, i64_w, i32_w]
               rfl
              exact norm_ (by simp only [putAll, Act.put, sA, sZ, sS] <;> rfl) (hJ5_14 (v212, v226) _ ⟨hHeld, (Kd.N_mono HO198.out (fun _ hk => ⟨hk.1.1, hk.1.2.1, hk.1.2.2.1, hk.2, hk.1.2.2.2.1, hk.1.2.2.2.2⟩)), (Kd.N_mono HO202.out (fun _ hk => ⟨hk.1.1, hk.1.2.1, hk.1.2.2.1, hk.2, hk.1.2.2.2.1, hk.1.2.2.2.2⟩)), HO205.out, (Kd.V_mono HO210.out (fun _ hk => ⟨hk.1.1, hk.1.2.1, hk.1.2.2.1, hk.1.2.2.2.1, hk.2, hk.1.2.2.2.2.1, hk.1.2.2.2.2.2⟩)), HO213.out, (Kd.V_mono HO219.out (fun _ hk => ⟨hk.1.1, hk.1.2.1, hk.1.2.2.1, hk.1.2.2.2.1, hk.2, hk.1.2.2.2.2.1, hk.1.2.2.2.2.2⟩)), (Kd.V_mono HO224.out (fun _ hk => ⟨hk.1.1, hk.1.2.1, hk.1.2.2.1, hk.1.2.2.2.1, hk.2, hk.1.2.2.2.2.1, hk.1.2.2.2.2.2⟩)), (Kd.N_mono HO227.out (fun _ hk => ⟨hk.1.1, hk.1.2.1, hk.1.2.2.1, hk.1.2.2.2.1, hk.2, hk.1.2.2.2.2⟩)), (Kd.V_mono HO233.out (fun _ hk => ⟨hk.1.1, hk.1.2.1, hk.1.2.2.1, hk.1.2.2.2.1, hk.2, hk.1.2.2.2.2.1, hk.1.2.2.2.2.2⟩)), (Kd.V_mono HO_1.out (fun _ hk => ⟨hk.1.1, hk.1.2.1, hk.1.2.2.1, hk.1.2.2.2.1, hk.2, hk.1.2.2.2.2.1, hk.1.2.2.2.2.2⟩)), BK194.out, HB.out⟩)
             skip
             rintro v212 w51 ⟨hS_, h0_, h1_, h2_, h3_, h4_, h5_, h6_, h7_, h8_, h9_, h10_⟩
             have n0_ : Aside0 (VN w51 w (fun k_ => (P1_ k_ ∨ w.heap.size ≤ k_) ∧ NB (.slice Ao24 y200.length co24) k_ ∧ NB v204 k_ ∧ NB v212 k_ ∧ k_ ≠ gb194) (.slice Ao19 y196.length co19) y196) := ⟨h0_⟩
             have n1_ : Aside0 (VN w51 w (fun k_ => (P1_ k_ ∨ w.heap.size ≤ k_) ∧ NB (.slice Ao19 y196.length co19) k_ ∧ NB v204 k_ ∧ NB v212 k_ ∧ k_ ≠ gb194) (.slice Ao24 y200.length co24) y200) := ⟨h1_⟩
             have n2_ : Aside0 (Kd.R (Kd.int .u8) 5 w51 w.heap.size (fun k_ => (w.heap.size ≤ k_)) v204 t203) := ⟨h2_⟩
             have n3_ : Aside0 (VV w51 w (fun k_ => (P1_ k_ ∨ w.heap.size ≤ k_) ∧ NB (.slice Ao19 y196.length co19) k_ ∧ NB (.slice Ao24 y200.length co24) k_ ∧ NB v204 k_ ∧ NB v212 k_ ∧ k_ ≠ gb194) (.slice A1 y206.length c1) y206) := ⟨h3_⟩
             have n4_ : Aside0 (VN w51 w (fun k_ => (P1_ k_ ∨ w.heap.size ≤ k_) ∧ NB (.slice Ao19 y196.length co19) k_ ∧ NB (.slice Ao24 y200.length co24) k_ ∧ NB v204 k_ ∧ k_ ≠ gb194) v212 y211) := ⟨h4_⟩
             have n5_ : Aside0 (VV w51 w (fun k_ => (P1_ k_ ∨ w.heap.size ≤ k_) ∧ NB (.slice Ao19 y196.length co19) k_ ∧ NB (.slice Ao24 y200.length co24) k_ ∧ NB v204 k_ ∧ NB v212 k_ ∧ k_ ≠ gb194) (.slice A46 y215.length c46) y215) := ⟨h5_⟩
             have n6_ : Aside0 (VV w51 w (fun k_ => (P1_ k_ ∨ w.heap.size ≤ k_) ∧ NB (.slice Ao19 y196.length co19) k_ ∧ NB (.slice Ao24 y200.length co24) k_ ∧ NB v204 k_ ∧ NB v212 k_ ∧ k_ ≠ gb194) (.slice A47 y220.length c47) y220) := ⟨h6_⟩
             have n7_ : Aside0 (VV w51 w (fun k_ => (P1_ k_ ∨ w.heap.size ≤ k_) ∧ NB (.slice Ao19 y196.length co19) k_ ∧ NB (.slice Ao24 y200.length co24) k_ ∧ NB v204 k_ ∧ NB v212 k_ ∧ k_ ≠ gb194) (.slice A1 y229.length c1) y229) := ⟨h7_⟩
             have n8_ : Aside0 (VV w51 w (fun k_ => (P1_ k_ ∨ w.heap.size ≤ k_) ∧ NB (.slice Ao19 y196.length co19) k_ ∧ NB (.slice Ao24 y200.length co24) k_ ∧ NB v204 k_ ∧ NB v212 k_ ∧ k_ ≠ gb194) (.slice A1 l1.length c1) l1) := ⟨h8_⟩
             have n9_ : Aside0 (w51.heap[gb194]? = some (.cells (tabC a0_0) 24 (0, 0))) := ⟨h9_⟩
             have n10_ : Aside0 (Below w.heap.size w w51) := ⟨h10_⟩
             clear HO_1
             clear HO198
             clear HO202
             clear HO205
             clear BK194
             clear HB
             clear h0_ h1_ h2_ h3_ h4_ h5_ h6_ h7_ h8_ h9_ h10_
             have HO198 := n0_
             have HO202 := n1_
             have HO205 := n2_
             have HO210 := n3_
             have HO213 := n4_
             have HO219 := n5_
             have HO224 := n6_
             have HO233 := n7_
             have HO_1 := n8_
             have BK194 := n9_
             have HB := n10_
             clear n0_ n1_ n2_ n3_ n4_ n5_ n6_ n7_ n8_ n9_ n10_
             have hHeld : w51.heap[gb194]? = some (.cells (tabC a0_0) 24 (0, 0)) := hS_
             obtain ⟨Ao52, co52, eo52⟩ := Kd.N_slice HO213.out
             (first | subst eo52 | (injection eo52 with f1_ f2_ f3_; have f4_ := f1_.symm; have f5_ := f3_.symm; clear f1_ f2_ f3_; subst f4_; subst f5_))
             refine norm_ (a' := ?_) ?_ ?_
             rotate_left
             ·simp only [putAll, Act.put, sA, sZ, sS]
              rfl
             refine two_ (i := 6) (j := 14) (Ni := some 46) (Nj := some 54) tq56 tq55 rfl rfl rfl rfl (two_of HT_.out (by kernel_rfl)) (by decide) (by decide) (fun K hK => ?_) (fun K hK => ?_)
             ·skip
              refine goes_ Try.func15 (by kernel_rfl) rfl #[.agg (tabC a0_0), .slice Ao52 y211.length co52] (by rfl) rfl rfl (by (try simp only [List.map_toArray, List.map_cons, List.map_nil]); first | done | rfl | (simp only [List.length_drop, List.length_take]; rfl)) ?_
              with_reducible refine (crc_Sum.calls kj5 a0_0 _ _ y211 t214 _ ?side1 ?side2 A28.out).mono ?_
              (case side1 => repeat (first | exact (Kd.N_reads' HO213.out).2.2 | (with_reducible refine Kd.C_alloc ?_ _) | (with_reducible refine Kd.C_drewN ?_ _) | (with_reducible refine Kd.C_drew ?_)))
              (case side2 => exact (Kd.N_reads' HO213.out).2.1)
              rintro e w53 ⟨rfl, hb⟩
              refine ⟨_, rfl, ?_⟩
              replace HO_1 := vB HO_1 hb
              replace HO198 := nB HO198 hb
              replace HO202 := nB HO202 hb
              replace HO205 := rB HO205 hb
              replace HO210 := vB HO210 hb
              replace HO219 := vB HO219 hb
              replace HO224 := vB HO224 hb
              replace HO233 := vB HO233 hb
              replace HO213 := nB HO213 hb
              replace BK194 := bB BK194 hb
              replace HB := hB HB hb
              (try clear hb)
              (try clear hb2)
              (try clear hk)
              (try clear hi)
              refine hK.out _ _ (BK194.out) (fun hHeld => ?_)
              clear hK K
              refine norm_ (a' := ?_) ?_ ?_
              rotate_left
              ·show Act.put _ (some 46) _ = _
               simp only [Act.put, sA, sZ, sS, i64_w, i32_w]
               rfl
              exact norm_ (by simp only [putAll, Act.put, sA, sZ, sS] <;> rfl) (hJ5_6 (.slice Ao52 y211.length co52) _ ⟨hHeld, HO198.out, HO202.out, HO205.out, HO210.out, HO213.out, HO219.out, HO224.out, HO233.out, HO_1.out, BK194.out, HB.out⟩)
             skip
             refine Kd.N_lit_step (Kd.slice 5 (Kd.int .u8)) _ 28 ?hg (N' := 54) ?hd (xs := ([y215, y220] : List (List Int))) (inner := [.slice A46 y215.length c46, .slice A47 y220.length c47]) (ok := (fun k_ => (P1_ k_ ∨ w.heap.size ≤ k_) ∧ NB (.slice Ao19 y196.length co19) k_ ∧ NB (.slice Ao24 y200.length co24) k_ ∧ NB v204 k_ ∧ NB (.slice Ao52 y211.length co52) k_ ∧ k_ ≠ gb194)) (okp := (fun k_ => (P1_ k_ ∨ w.heap.size ≤ k_) ∧ NB (.slice Ao19 y196.length co19) k_ ∧ NB (.slice Ao24 y200.length co24) k_ ∧ NB v204 k_ ∧ NB (.slice Ao52 y211.length co52) k_ ∧ k_ ≠ gb194)) ?hr ?hp (fun _ hk => hk) ((show ∀ k_, w51.heap.size ≤ k_ → (fun k_ => (P1_ k_ ∨ w.heap.size ≤ k_) ∧ NB (.slice Ao19 y196.length co19) k_ ∧ NB (.slice Ao24 y200.length co24) k_ ∧ NB v204 k_ ∧ NB (.slice Ao52 y211.length co52) k_ ∧ k_ ≠ gb194) k_ from fun k_ hk => ⟨.inr (fW HB hk), fN HO198 hk, fN HO202 hk, Kd.fresh' (Kd.R_lt HO205.out) k_ hk, fN HO213 hk, fB BK194 hk⟩) _ (Nat.le_refl _)) (Below.refl _ _) (Nat.le_refl _) (by simp) ?_; (case hd => rfl); (case hg => rfl); (case hr => first | (go_simp; done) | (go_simp; rfl)); (case hp => exact (Reps.one (show Kd.FK (Kd.slice 5 (Kd.int .u8)) _ _ y215 [.slice A46 y215.length c46] from (Kd.FK_slice_mk (Kd.V_reads' (Kd.V_mono (ok' := (fun k_ => (P1_ k_ ∨ w.heap.size ≤ k_) ∧ NB (.slice Ao19 y196.length co19) k_ ∧ NB (.slice Ao24 y200.length co24) k_ ∧ NB v204 k_ ∧ NB (.slice Ao52 y211.length co52) k_ ∧ k_ ≠ gb194)) (HO219.out) (fun k_ hk => ⟨hk.1, hk.2.1, hk.2.2.1, hk.2.2.2.1, hk.2.2.2.2.1, hk.2.2.2.2.2⟩))).2.1 (Kd.V_F (Kd.V_mono (ok' := (fun k_ => (P1_ k_ ∨ w.heap.size ≤ k_) ∧ NB (.slice Ao19 y196.length co19) k_ ∧ NB (.slice Ao24 y200.length co24) k_ ∧ NB v204 k_ ∧ NB (.slice Ao52 y211.length co52) k_ ∧ k_ ≠ gb194)) (HO219.out) (fun k_ hk => ⟨hk.1, hk.2.1, hk.2.2.1, hk.2.2.2.1, hk.2.2.2.2.1, hk.2.2.2.2.2⟩))))) (Reps.one (show Kd.FK (Kd.slice 5 (Kd.int .u8)) _ _ y220 [.slice A47 y220.length c47] from (Kd.FK_slice_mk (Kd.V_reads' (Kd.V_mono (ok' := (fun k_ => (P1_ k_ ∨ w.heap.size ≤ k_) ∧ NB (.slice Ao19 y196.length co19) k_ ∧ NB (.slice Ao24 y200.length co24) k_ ∧ NB v204 k_ ∧ NB (.slice Ao52 y211.length co52) k_ ∧ k_ ≠ gb194)) (HO224.out) (fun k_ hk => ⟨hk.1, hk.2.1, hk.2.2.1, hk.2.2.2.1, hk.2.2.2.2.1, hk.2.2.2.2.2⟩))).2.1 (Kd.V_F (Kd.V_mono (ok' := (fun k_ => (P1_ k_ ∨ w.heap.size ≤ k_) ∧ NB (.slice Ao19 y196.length co19) k_ ∧ NB (.slice Ao24 y200.length co24) k_ ∧ NB v204 k_ ∧ NB (.slice Ao52 y211.length co52) k_ ∧ k_ ≠ gb194)) (HO224.out) (fun k_ hk => ⟨hk.1, hk.2.1, hk.2.2.1, hk.2.2.2.1, hk.2.2.2.2.1, hk.2.2.2.2.2⟩))))) (Reps.none _ _))))
             intro v226 w52 ho53 hb hg_ hnew_
             clear hg_ hnew_
             rw [← Ny225.out] at ho53
             have HO227 := nL ho53 HB
             replace HO_1 := vE HO_1 ho53 hb
             replace HO198 := nE HO198 ho53 hb
             replace HO202 := nE HO202 ho53 hb
             replace HO205 := rB HO205 hb
             replace HO210 := vE HO210 ho53 hb
             replace HO219 := vE HO219 ho53 hb
             replace HO224 := vE HO224 ho53 hb
             replace HO233 := vE HO233 ho53 hb
             replace HO213 := nE HO213 ho53 hb
             replace BK194 := bB BK194 hb
             replace HB := hB HB hb
             clear hb ho53
             refine hK.out _ _ (BK194.out) (fun hHeld => ?_)
             clear hK K
             refine norm_ (a' := ?_) ?_ ?_
             rotate_left
             ·show Act.put _ (some 54) _ = _
              simp only [Act.put, sA, sZ, sS, i64_w, i32_w]
              rfl
             exact norm_ (by simp only [putAll, Act.put, sA, sZ, sS] <;> rfl) (hJ5_14 (.slice Ao52 y211.length co52, v226) _ ⟨hHeld, (Kd.N_mono HO198.out (fun _ hk => ⟨hk.1.1, hk.1.2.1, hk.1.2.2.1, hk.1.2.2.2.1, hk.2, hk.1.2.2.2.2⟩)), (Kd.N_mono HO202.out (fun _ hk => ⟨hk.1.1, hk.1.2.1, hk.1.2.2.1, hk.1.2.2.2.1, hk.2, hk.1.2.2.2.2⟩)), HO205.out, (Kd.V_mono HO210.out (fun _ hk => ⟨hk.1.1, hk.1.2.1, hk.1.2.2.1, hk.1.2.2.2.1, hk.1.2.2.2.2.1, hk.2, hk.1.2.2.2.2.2⟩)), (Kd.N_mono HO213.out (fun _ hk => ⟨hk.1.1, hk.1.2.1, hk.1.2.2.1, hk.1.2.2.2.1, hk.2, hk.1.2.2.2.2⟩)), (Kd.V_mono HO219.out (fun _ hk => ⟨hk.1.1, hk.1.2.1, hk.1.2.2.1, hk.1.2.2.2.1, hk.1.2.2.2.2.1, hk.2, hk.1.2.2.2.2.2⟩)), (Kd.V_mono HO224.out (fun _ hk => ⟨hk.1.1, hk.1.2.1, hk.1.2.2.1, hk.1.2.2.2.1, hk.1.2.2.2.2.1, hk.2, hk.1.2.2.2.2.2⟩)), HO227.out, (Kd.V_mono HO233.out (fun _ hk => ⟨hk.1.1, hk.1.2.1, hk.1.2.2.1, hk.1.2.2.2.1, hk.1.2.2.2.2.1, hk.2, hk.1.2.2.2.2.2⟩)), (Kd.V_mono HO_1.out (fun _ hk => ⟨hk.1.1, hk.1.2.1, hk.1.2.2.1, hk.1.2.2.2.1, hk.1.2.2.2.2.1, hk.2, hk.1.2.2.2.2.2⟩)), BK194.out, HB.out⟩)
            skip
            rintro ⟨v212, v226⟩ w53 ⟨hS_, h0_, h1_, h2_, h3_, h4_, h5_, h6_, h7_, h8_, h9_, h10_, h11_⟩
            have n0_ : Aside0 (VN w53 w (fun k_ => (P1_ k_ ∨ w.heap.size ≤ k_) ∧ NB (.slice Ao24 y200.length co24) k_ ∧ NB v204 k_ ∧ NB v212 k_ ∧ NB v226 k_ ∧ k_ ≠ gb194) (.slice Ao19 y196.length co19) y196) := ⟨h0_⟩
            have n1_ : Aside0 (VN w53 w (fun k_ => (P1_ k_ ∨ w.heap.size ≤ k_) ∧ NB (.slice Ao19 y196.length co19) k_ ∧ NB v204 k_ ∧ NB v212 k_ ∧ NB v226 k_ ∧ k_ ≠ gb194) (.slice Ao24 y200.length co24) y200) := ⟨h1_⟩
            have n2_ : Aside0 (Kd.R (Kd.int .u8) 5 w53 w.heap.size (fun k_ => (w.heap.size ≤ k_)) v204 t203) := ⟨h2_⟩
            have n3_ : Aside0 (VV w53 w (fun k_ => (P1_ k_ ∨ w.heap.size ≤ k_) ∧ NB (.slice Ao19 y196.length co19) k_ ∧ NB (.slice Ao24 y200.length co24) k_ ∧ NB v204 k_ ∧ NB v212 k_ ∧ NB v226 k_ ∧ k_ ≠ gb194) (.slice A1 y206.length c1) y206) := ⟨h3_⟩
            have n4_ : Aside0 (VN w53 w (fun k_ => (P1_ k_ ∨ w.heap.size ≤ k_) ∧ NB (.slice Ao19 y196.length co19) k_ ∧ NB (.slice Ao24 y200.length co24) k_ ∧ NB v204 k_ ∧ NB v226 k_ ∧ k_ ≠ gb194) v212 y211) := ⟨h4_⟩
            have n5_ : Aside0 (VV w53 w (fun k_ => (P1_ k_ ∨ w.heap.size ≤ k_) ∧ NB (.slice Ao19 y196.length co19) k_ ∧ NB (.slice Ao24 y200.length co24) k_ ∧ NB v204 k_ ∧ NB v212 k_ ∧ NB v226 k_ ∧ k_ ≠ gb194) (.slice A46 y215.length c46) y215) := ⟨h5_⟩
            have n6_ : Aside0 (VV w53 w (fun k_ => (P1_ k_ ∨ w.heap.size ≤ k_) ∧ NB (.slice Ao19 y196.length co19) k_ ∧ NB (.slice Ao24 y200.length co24) k_ ∧ NB v204 k_ ∧ NB v212 k_ ∧ NB v226 k_ ∧ k_ ≠ gb194) (.slice A47 y220.length c47) y220) := ⟨h6_⟩
            have n7_ : Aside0 (VN w53 w (fun k_ => (P1_ k_ ∨ w.heap.size ≤ k_) ∧ NB (.slice Ao19 y196.length co19) k_ ∧ NB (.slice Ao24 y200.length co24) k_ ∧ NB v204 k_ ∧ NB v212 k_ ∧ k_ ≠ gb194) v226 y225) := ⟨h7_⟩
            have n8_ : Aside0 (VV w53 w (fun k_ => (P1_ k_ ∨ w.heap.size ≤ k_) ∧ NB (.slice Ao19 y196.length co19) k_ ∧ NB (.slice Ao24 y200.length co24) k_ ∧ NB v204 k_ ∧ NB v212 k_ ∧ NB v226 k_ ∧ k_ ≠ gb194) (.slice A1 y229.length c1) y229) := ⟨h8_⟩
            have n9_ : Aside0 (VV w53 w (fun k_ => (P1_ k_ ∨ w.heap.size ≤ k_) ∧ NB (.slice Ao19 y196.length co19) k_ ∧ NB (.slice Ao24 y200.length co24) k_ ∧ NB v204 k_ ∧ NB v212 k_ ∧ NB v226 k_ ∧ k_ ≠ gb194) (.slice A1 l1.length c1) l1) := ⟨h9_⟩
            have n10_ : Aside0 (w53.heap[gb194]? = some (.cells (tabC a0_0) 24 (0, 0))) := ⟨h10_⟩
            have n11_ : Aside0 (Below w.heap.size w w53) := ⟨h11_⟩
            clear HO_1
            clear HO198
            clear HO202
            clear HO205
            clear BK194
            clear HB
            clear h0_ h1_ h2_ h3_ h4_ h5_ h6_ h7_ h8_ h9_ h10_ h11_
            have HO198 := n0_
            have HO202 := n1_
            have HO205 := n2_
            have HO210 := n3_
            have HO213 := n4_
            have HO219 := n5_
            have HO224 := n6_
            have HO227 := n7_
            have HO233 := n8_
            have HO_1 := n9_
            have BK194 := n10_
            have HB := n11_
            clear n0_ n1_ n2_ n3_ n4_ n5_ n6_ n7_ n8_ n9_ n10_ n11_
            have hHeld : w53.heap[gb194]? = some (.cells (tabC a0_0) 24 (0, 0)) := hS_
            obtain ⟨Ao54, co54, eo54⟩ := Kd.N_slice HO213.out
            (first | subst eo54 | (injection eo54 with f1_ f2_ f3_; have f4_ := f1_.symm; have f5_ := f3_.symm; clear f1_ f2_ f3_; subst f4_; subst f5_))
            refine norm_ (a' := ?_) ?_ ?_
            rotate_left
            ·simp only [putAll, Act.put, sA, sZ, sS]
             rfl
            refine one_ (i := 6) (N := some 46) tq53 rfl rfl (one_of HT_.out (by kernel_rfl)) (by decide) (fun K hK => ?_)
            refine goes_ Try.func15 (by kernel_rfl) rfl #[.agg (tabC a0_0), .slice Ao54 y211.length co54] (by rfl) rfl rfl (by (try simp only [List.map_toArray, List.map_cons, List.map_nil]); first | done | rfl | (simp only [List.length_drop, List.length_take]; rfl)) ?_
            with_reducible refine (crc_Sum.calls kj5 a0_0 _ _ y211 t214 _ ?side1 ?side2 A28.out).mono ?_
            (case side1 => repeat (first | exact (Kd.N_reads' HO213.out).2.2 | (with_reducible refine Kd.C_alloc ?_ _) | (with_reducible refine Kd.C_drewN ?_ _) | (with_reducible refine Kd.C_drew ?_)))
            (case side2 => exact (Kd.N_reads' HO213.out).2.1)
            rintro e w55 ⟨rfl, hb⟩
            refine ⟨_, rfl, ?_⟩
            replace HO_1 := vB HO_1 hb
            replace HO198 := nB HO198 hb
            replace HO202 := nB HO202 hb
            replace HO205 := rB HO205 hb
            replace HO210 := vB HO210 hb
            replace HO219 := vB HO219 hb
            replace HO224 := vB HO224 hb
            replace HO233 := vB HO233 hb
            replace HO213 := nB HO213 hb
            replace HO227 := nB HO227 hb
            replace BK194 := bB BK194 hb
            replace HB := hB HB hb
            (try clear hb)
            (try clear hb2)
            (try clear hk)
            (try clear hi)
            refine hK.out _ _ (BK194.out) (fun hHeld => ?_)
            clear hK K
            refine norm_ (a' := ?_) ?_ ?_
            rotate_left
            ·show Act.put _ (some 46) _ = _
             simp only [Act.put, sA, sZ, sS, i64_w, i32_w]
             rfl
            exact norm_ (by simp only [putAll, Act.put, sA, sZ, sS] <;> rfl) (hJ5_6_14 (.slice Ao54 y211.length co54, v226) _ ⟨hHeld, HO198.out, HO202.out, HO205.out, HO210.out, HO213.out, HO219.out, HO224.out, HO227.out, HO233.out, HO_1.out, BK194.out, HB.out⟩)
           skip
           rintro v212 w53 ⟨hS_, h0_, h1_, h2_, h3_, h4_, h5_, h6_, h7_, h8_, h9_, h10_⟩
           have n0_ : Aside0 (VN w53 w (fun k_ => (P1_ k_ ∨ w.heap.size ≤ k_) ∧ NB (.slice Ao24 y200.length co24) k_ ∧ NB v204 k_ ∧ NB v212 k_ ∧ k_ ≠ gb194) (.slice Ao19 y196.length co19) y196) := ⟨h0_⟩
           have n1_ : Aside0 (VN w53 w (fun k_ => (P1_ k_ ∨ w.heap.size ≤ k_) ∧ NB (.slice Ao19 y196.length co19) k_ ∧ NB v204 k_ ∧ NB v212 k_ ∧ k_ ≠ gb194) (.slice Ao24 y200.length co24) y200) := ⟨h1_⟩
           have n2_ : Aside0 (Kd.R (Kd.int .u8) 5 w53 w.heap.size (fun k_ => (w.heap.size ≤ k_)) v204 t203) := ⟨h2_⟩
           have n3_ : Aside0 (VV w53 w (fun k_ => (P1_ k_ ∨ w.heap.size ≤ k_) ∧ NB (.slice Ao19 y196.length co19) k_ ∧ NB (.slice Ao24 y200.length co24) k_ ∧ NB v204 k_ ∧ NB v212 k_ ∧ k_ ≠ gb194) (.slice A1 y206.length c1) y206) := ⟨h3_⟩
           have n4_ : Aside0 (VN w53 w (fun k_ => (P1_ k_ ∨ w.heap.size ≤ k_) ∧ NB (.slice Ao19 y196.length co19) k_ ∧ NB (.slice Ao24 y200.length co24) k_ ∧ NB v204 k_ ∧ k_ ≠ gb194) v212 y211) := ⟨h4_⟩
           have n5_ : Aside0 (VV w53 w (fun k_ => (P1_ k_ ∨ w.heap.size ≤ k_) ∧ NB (.slice Ao19 y196.length co19) k_ ∧ NB (.slice Ao24 y200.length co24) k_ ∧ NB v204 k_ ∧ NB v212 k_ ∧ k_ ≠ gb194) (.slice A46 y215.length c46) y215) := ⟨h5_⟩
           have n6_ : Aside0 (VV w53 w (fun k_ => (P1_ k_ ∨ w.heap.size ≤ k_) ∧ NB (.slice Ao19 y196.length co19) k_ ∧ NB (.slice Ao24 y200.length co24) k_ ∧ NB v204 k_ ∧ NB v212 k_ ∧ k_ ≠ gb194) (.slice A47 y220.length c47) y220) := ⟨h6_⟩
           have n7_ : Aside0 (VV w53 w (fun k_ => (P1_ k_ ∨ w.heap.size ≤ k_) ∧ NB (.slice Ao19 y196.length co19) k_ ∧ NB (.slice Ao24 y200.length co24) k_ ∧ NB v204 k_ ∧ NB v212 k_ ∧ k_ ≠ gb194) (.slice A1 y229.length c1) y229) := ⟨h7_⟩
           have n8_ : Aside0 (VV w53 w (fun k_ => (P1_ k_ ∨ w.heap.size ≤ k_) ∧ NB (.slice Ao19 y196.length co19) k_ ∧ NB (.slice Ao24 y200.length co24) k_ ∧ NB v204 k_ ∧ NB v212 k_ ∧ k_ ≠ gb194) (.slice A1 l1.length c1) l1) := ⟨h8_⟩
           have n9_ : Aside0 (w53.heap[gb194]? = some (.cells (tabC a0_0) 24 (0, 0))) := ⟨h9_⟩
           have n10_ : Aside0 (Below w.heap.size w w53) := ⟨h10_⟩
           clear HO_1
           clear HO198
           clear HO202
           clear HO205
           clear BK194
           clear HB
           clear h0_ h1_ h2_ h3_ h4_ h5_ h6_ h7_ h8_ h9_ h10_
           have HO198 := n0_
           have HO202 := n1_
           have HO205 := n2_
           have HO210 := n3_
           have HO213 := n4_
           have HO219 := n5_
           have HO224 := n6_
           have HO233 := n7_
           have HO_1 := n8_
           have BK194 := n9_
           have HB := n10_
           clear n0_ n1_ n2_ n3_ n4_ n5_ n6_ n7_ n8_ n9_ n10_
           have hHeld : w53.heap[gb194]? = some (.cells (tabC a0_0) 24 (0, 0)) := hS_
           refine norm_ (a' := ?_) ?_ ?_
           rotate_left
           ·simp only [putAll, Act.put, sA, sZ, sS]
            rfl
           refine one_ (i := 14) (N := some 54) tq53 rfl rfl (one_of HT_.out (by kernel_rfl)) (by decide) (fun K hK => ?_)
           refine Kd.N_lit_step (Kd.slice 5 (Kd.int .u8)) _ 28 ?hg (N' := 54) ?hd (xs := ([y215, y220] : List (List Int))) (inner := [.slice A46 y215.length c46, .slice A47 y220.length c47]) (ok := (fun k_ => (P1_ k_ ∨ w.heap.size ≤ k_) ∧ NB (.slice Ao19 y196.length co19) k_ ∧ NB (.slice Ao24 y200.length co24) k_ ∧ NB v204 k_ ∧ NB v212 k_ ∧ k_ ≠ gb194)) (okp := (fun k_ => (P1_ k_ ∨ w.heap.size ≤ k_) ∧ NB (.slice Ao19 y196.length co19) k_ ∧ NB (.slice Ao24 y200.length co24) k_ ∧ NB v204 k_ ∧ NB v212 k_ ∧ k_ ≠ gb194)) ?hr ?hp (fun _ hk => hk) ((show ∀ k_, w53.heap.size ≤ k_ → (fun k_ => (P1_ k_ ∨ w.heap.size ≤ k_) ∧ NB (.slice Ao19 y196.length co19) k_ ∧ NB (.slice Ao24 y200.length co24) k_ ∧ NB v204 k_ ∧ NB v212 k_ ∧ k_ ≠ gb194) k_ from fun k_ hk => ⟨.inr (fW HB hk), fN HO198 hk, fN HO202 hk, Kd.fresh' (Kd.R_lt HO205.out) k_ hk, fN HO213 hk, fB BK194 hk⟩) _ (Nat.le_refl _)) (Below.refl _ _) (Nat.le_refl _) (by simp) ?_; (case hd => rfl); (case hg => rfl); (case hr => first | (go_simp; done) | (go_simp; rfl)); (case hp => exact (Reps.one (show Kd.FK (Kd.slice 5 (Kd.int .u8)) _ _ y215 [.slice A46 y215.length c46] from (Kd.FK_slice_mk (Kd.V_reads' (Kd.V_mono (ok' := (fun k_ => (P1_ k_ ∨ w.heap.size ≤ k_) ∧ NB (.slice Ao19 y196.length co19) k_ ∧ NB (.slice Ao24 y200.length co24) k_ ∧ NB v204 k_ ∧ NB v212 k_ ∧ k_ ≠ gb194)) (HO219.out) (fun k_ hk => ⟨hk.1, hk.2.1, hk.2.2.1, hk.2.2.2.1, hk.2.2.2.2.1, hk.2.2.2.2.2⟩))).2.1 (Kd.V_F (Kd.V_mono (ok' := (fun k_ => (P1_ k_ ∨ w.heap.size ≤ k_) ∧ NB (.slice Ao19 y196.length co19) k_ ∧ NB (.slice Ao24 y200.length co24) k_ ∧ NB v204 k_ ∧ NB v212 k_ ∧ k_ ≠ gb194)) (HO219.out) (fun k_ hk => ⟨hk.1, hk.2.1, hk.2.2.1, hk.2.2.2.1, hk.2.2.2.2.1, hk.2.2.2.2.2⟩))))) (Reps.one (show Kd.FK (Kd.slice 5 (Kd.int .u8)) _ _ y220 [.slice A47 y220.length c47] from (Kd.FK_slice_mk (Kd.V_reads' (Kd.V_mono (ok' := (fun k_ => (P1_ k_ ∨ w.heap.size ≤ k_) ∧ NB (.slice Ao19 y196.length co19) k_ ∧ NB (.slice Ao24 y200.length co24) k_ ∧ NB v204 k_ ∧ NB v212 k_ ∧ k_ ≠ gb194)) (HO224.out) (fun k_ hk => ⟨hk.1, hk.2.1, hk.2.2.1, hk.2.2.2.1, hk.2.2.2.2.1, hk.2.2.2.2.2⟩))).2.1 (Kd.V_F (Kd.V_mono (ok' := (fun k_ => (P1_ k_ ∨ w.heap.size ≤ k_) ∧ NB (.slice Ao19 y196.length co19) k_ ∧ NB (.slice Ao24 y200.length co24) k_ ∧ NB v204 k_ ∧ NB v212 k_ ∧ k_ ≠ gb194)) (HO224.out) (fun k_ hk => ⟨hk.1, hk.2.1, hk.2.2.1, hk.2.2.2.1, hk.2.2.2.2.1, hk.2.2.2.2.2⟩))))) (Reps.none _ _))))
           intro v226 w54 ho55 hb hg_ hnew_
           clear hg_ hnew_
           rw [← Ny225.out] at ho55
           have HO227 := nL ho55 HB
           replace HO_1 := vE HO_1 ho55 hb
           replace HO198 := nE HO198 ho55 hb
           replace HO202 := nE HO202 ho55 hb
           replace HO205 := rB HO205 hb
           replace HO210 := vE HO210 ho55 hb
           replace HO219 := vE HO219 ho55 hb
           replace HO224 := vE HO224 ho55 hb
           replace HO233 := vE HO233 ho55 hb
           replace HO213 := nE HO213 ho55 hb
           replace BK194 := bB BK194 hb
           replace HB := hB HB hb
           clear hb ho55
           refine hK.out _ _ (BK194.out) (fun hHeld => ?_)
           clear hK K
           refine norm_ (a' := ?_) ?_ ?_
           rotate_left
           ·show Act.put _ (some 54) _ = _
            simp only [Act.put, sA, sZ, sS, i64_w, i32_w]
            rfl
           exact norm_ (by simp only [putAll, Act.put, sA, sZ, sS] <;> rfl) (hJ5_6_14 (v212, v226) _ ⟨hHeld, (Kd.N_mono HO198.out (fun _ hk => ⟨hk.1.1, hk.1.2.1, hk.1.2.2.1, hk.1.2.2.2.1, hk.2, hk.1.2.2.2.2⟩)), (Kd.N_mono HO202.out (fun _ hk => ⟨hk.1.1, hk.1.2.1, hk.1.2.2.1, hk.1.2.2.2.1, hk.2, hk.1.2.2.2.2⟩)), HO205.out, (Kd.V_mono HO210.out (fun _ hk => ⟨hk.1.1, hk.1.2.1, hk.1.2.2.1, hk.1.2.2.2.1, hk.1.2.2.2.2.1, hk.2, hk.1.2.2.2.2.2⟩)), (Kd.N_mono HO213.out (fun _ hk => ⟨hk.1.1, hk.1.2.1, hk.1.2.2.1, hk.1.2.2.2.1, hk.2, hk.1.2.2.2.2⟩)), (Kd.V_mono HO219.out (fun _ hk => ⟨hk.1.1, hk.1.2.1, hk.1.2.2.1, hk.1.2.2.2.1, hk.1.2.2.2.2.1, hk.2, hk.1.2.2.2.2.2⟩)), (Kd.V_mono HO224.out (fun _ hk => ⟨hk.1.1, hk.1.2.1, hk.1.2.2.1, hk.1.2.2.2.1, hk.1.2.2.2.2.1, hk.2, hk.1.2.2.2.2.2⟩)), HO227.out, (Kd.V_mono HO233.out (fun _ hk => ⟨hk.1.1, hk.1.2.1, hk.1.2.2.1, hk.1.2.2.2.1, hk.1.2.2.2.2.1, hk.2, hk.1.2.2.2.2.2⟩)), (Kd.V_mono HO_1.out (fun _ hk => ⟨hk.1.1, hk.1.2.1, hk.1.2.2.1, hk.1.2.2.2.1, hk.1.2.2.2.2.1, hk.2, hk.1.2.2.2.2.2⟩)), BK194.out, HB.out⟩)
          skip
          rintro ⟨v212, v226⟩ w55 ⟨hS_, h0_, h1_, h2_, h3_, h4_, h5_, h6_, h7_, h8_, h9_, h10_, h11_⟩
          have n0_ : Aside0 (VN w55 w (fun k_ => (P1_ k_ ∨ w.heap.size ≤ k_) ∧ NB (.slice Ao24 y200.length co24) k_ ∧ NB v204 k_ ∧ NB v212 k_ ∧ NB v226 k_ ∧ k_ ≠ gb194) (.slice Ao19 y196.length co19) y196) := ⟨h0_⟩
          have n1_ : Aside0 (VN w55 w (fun k_ => (P1_ k_ ∨ w.heap.size ≤ k_) ∧ NB (.slice Ao19 y196.length co19) k_ ∧ NB v204 k_ ∧ NB v212 k_ ∧ NB v226 k_ ∧ k_ ≠ gb194) (.slice Ao24 y200.length co24) y200) := ⟨h1_⟩
          have n2_ : Aside0 (Kd.R (Kd.int .u8) 5 w55 w.heap.size (fun k_ => (w.heap.size ≤ k_)) v204 t203) := ⟨h2_⟩
          have n3_ : Aside0 (VV w55 w (fun k_ => (P1_ k_ ∨ w.heap.size ≤ k_) ∧ NB (.slice Ao19 y196.length co19) k_ ∧ NB (.slice Ao24 y200.length co24) k_ ∧ NB v204 k_ ∧ NB v212 k_ ∧ NB v226 k_ ∧ k_ ≠ gb194) (.slice A1 y206.length c1) y206) := ⟨h3_⟩
          have n4_ : Aside0 (VN w55 w (fun k_ => (P1_ k_ ∨ w.heap.size ≤ k_) ∧ NB (.slice Ao19 y196.length co19) k_ ∧ NB (.slice Ao24 y200.length co24) k_ ∧ NB v204 k_ ∧ NB v226 k_ ∧ k_ ≠ gb194) v212 y211) := ⟨h4_⟩
          have n5_ : Aside0 (VV w55 w (fun k_ => (P1_ k_ ∨ w.heap.size ≤ k_) ∧ NB (.slice Ao19 y196.length co19) k_ ∧ NB (.slice Ao24 y200.length co24) k_ ∧ NB v204 k_ ∧ NB v212 k_ ∧ NB v226 k_ ∧ k_ ≠ gb194) (.slice A46 y215.length c46) y215) := ⟨h5_⟩
          have n6_ : Aside0 (VV w55 w (fun k_ => (P1_ k_ ∨ w.heap.size ≤ k_) ∧ NB (.slice Ao19 y196.length co19) k_ ∧ NB (.slice Ao24 y200.length co24) k_ ∧ NB v204 k_ ∧ NB v212 k_ ∧ NB v226 k_ ∧ k_ ≠ gb194) (.slice A47 y220.length c47) y220) := ⟨h6_⟩
          have n7_ : Aside0 (VN w55 w (fun k_ => (P1_ k_ ∨ w.heap.size ≤ k_) ∧ NB (.slice Ao19 y196.length co19) k_ ∧ NB (.slice Ao24 y200.length co24) k_ ∧ NB v204 k_ ∧ NB v212 k_ ∧ k_ ≠ gb194) v226 y225) := ⟨h7_⟩
          have n8_ : Aside0 (VV w55 w (fun k_ => (P1_ k_ ∨ w.heap.size ≤ k_) ∧ NB (.slice Ao19 y196.length co19) k_ ∧ NB (.slice Ao24 y200.length co24) k_ ∧ NB v204 k_ ∧ NB v212 k_ ∧ NB v226 k_ ∧ k_ ≠ gb194) (.slice A1 y229.length c1) y229) := ⟨h8_⟩
          have n9_ : Aside0 (VV w55 w (fun k_ => (P1_ k_ ∨ w.heap.size ≤ k_) ∧ NB (.slice Ao19 y196.length co19) k_ ∧ NB (.slice Ao24 y200.length co24) k_ ∧ NB v204 k_ ∧ NB v212 k_ ∧ NB v226 k_ ∧ k_ ≠ gb194) (.slice A1 l1.length c1) l1) := ⟨h9_⟩
          have n10_ : Aside0 (w55.heap[gb194]? = some (.cells (tabC a0_0) 24 (0, 0))) := ⟨h10_⟩
          have n11_ : Aside0 (Below w.heap.size w w55) := ⟨h11_⟩
          clear HO_1
          clear HO198
          clear HO202
          clear HO205
          clear BK194
          clear HB
          clear h0_ h1_ h2_ h3_ h4_ h5_ h6_ h7_ h8_ h9_ h10_ h11_
          have HO198 := n0_
          have HO202 := n1_
          have HO205 := n2_
          have HO210 := n3_
          have HO213 := n4_
          have HO219 := n5_
          have HO224 := n6_
          have HO227 := n7_
          have HO233 := n8_
          have HO_1 := n9_
          have BK194 := n10_
          have HB := n11_
          clear n0_ n1_ n2_ n3_ n4_ n5_ n6_ n7_ n8_ n9_ n10_ n11_
          have hHeld : w55.heap[gb194]? = some (.cells (tabC a0_0) 24 (0, 0)) := hS_
          obtain ⟨Ao56, co56, eo56⟩ := Kd.N_slice HO227.out
          (first | subst eo56 | (injection eo56 with f1_ f2_ f3_; have f4_ := f1_.symm; have f5_ := f3_.symm; clear f1_ f2_ f3_; subst f4_; subst f5_))
          refine norm_ (a' := ?_) ?_ ?_
          rotate_left
          ·simp only [putAll, Act.put, sA, sZ, sS]
           rfl
          refine one_ (i := 15) (N := some 55) tq52 rfl rfl (one_of HT_.out (by kernel_rfl)) (by decide) (fun K hK => ?_)
          refine goes_ Try.func17 (by kernel_rfl) rfl #[.agg (tabC a0_0), .int .u32 t214, .slice Ao56 y225.length co56] (by rfl) rfl rfl (by (try simp only [List.map_toArray, List.map_cons, List.map_nil]); first | done | rfl | (simp only [List.length_drop, List.length_take]; rfl)) ?_
          with_reducible refine (crc_More.calls kj5 a0_0 t214 _ _ y225 t228 _ ?side1 ?side2 A34.out).mono ?_
          (case side1 => repeat (first | exact (Kd.N_reads' HO227.out).2.2 | (with_reducible refine Kd.C_alloc ?_ _) | (with_reducible refine Kd.C_drewN ?_ _) | (with_reducible refine Kd.C_drew ?_)))
          (case side2 => exact (Kd.N_reads' HO227.out).2.1)
          rintro e w57 ⟨rfl, hb⟩
          refine ⟨_, rfl, ?_⟩
          replace HO_1 := vB HO_1 hb
          replace HO198 := nB HO198 hb
          replace HO202 := nB HO202 hb
          replace HO205 := rB HO205 hb
          replace HO210 := vB HO210 hb
          replace HO219 := vB HO219 hb
          replace HO224 := vB HO224 hb
          replace HO233 := vB HO233 hb
          replace HO213 := nB HO213 hb
          replace HO227 := nB HO227 hb
          replace BK194 := bB BK194 hb
          replace HB := hB HB hb
          (try clear hb)
          (try clear hb2)
          (try clear hk)
          (try clear hi)
          refine hK.out _ _ (BK194.out) (fun hHeld => ?_)
          clear hK K
          refine norm_ (a' := ?_) ?_ ?_
          rotate_left
          ·show Act.put _ (some 55) _ = _
           simp only [Act.put, sA, sZ, sS, i64_w, i32_w]
           rfl
          refine pure_ (i := 17) (N := some 57) (v := ?_) (a' := ?_) tq50 rfl rfl (any_of HT_.out (by kernel_rfl)) (fun _ _ _ h => h) (Or.inl ⟨by rfl, ?_⟩) ?_ ?_
          rotate_left
          ·intro w'
           go_simp
           with_reducible rfl
          rotate_left
          ·simp only [Act.put, sA, sZ, sS, i64_w, i32_w]
           rfl
          refine pure_ (i := 18) (N := some 58) (v := ?_) (a' := ?_) tq48 rfl rfl (any_of HT_.out (by kernel_rfl)) (fun _ _ _ h => h) (Or.inl ⟨by rfl, ?_⟩) ?_ ?_
          rotate_left
          ·intro w'
           go_simp
           with_reducible rfl
          rotate_left
          ·simp only [Act.put, sA, sZ, sS, i64_w, i32_w]
           rfl
          refine take_ (i := 19) (N := some 59) (v := ?_) (a' := ?_) tq46 rfl rfl (take_ofW HT_.out HW_.out (by kernel_rfl)) (fun _ _ _ h => h) (Or.inl ⟨by rfl, ?_⟩) hHeld ?_ ?_
          rotate_left
          ·intro w' s0
           (first | (rw [tab_load_run (x := .tmp 4) rfl rfl (by assumption)]) | (go_simp; with_reducible rfl))
          rotate_left
          ·simp only [Act.put, sA, sZ, sS, i64_w, i32_w]
           rfl
          refine take_ (i := 20) (N := some 60) (v := ?_) (a' := ?_) tq44 rfl rfl (take_ofW HT_.out HW_.out (by kernel_rfl)) (fun _ _ _ h => h) (Or.inl ⟨by rfl, ?_⟩) hHeld ?_ ?_
          rotate_left
          ·intro w' s0
           (first | (rw [tab_load_run (x := .tmp 4) rfl rfl (by assumption)]) | (go_simp; with_reducible rfl))
          rotate_left
          ·simp only [Act.put, sA, sZ, sS, i64_w, i32_w]
           rfl
          refine pure_ (i := 21) (N := some 61) (v := ?_) (a' := ?_) tq42 rfl rfl (any_of HT_.out (by kernel_rfl)) (fun _ _ _ h => h) (Or.inl ⟨by rfl, ?_⟩) ?_ ?_
          rotate_left
          ·intro w'
           go_simp
           with_reducible rfl
          rotate_left
          ·simp only [Act.put, sA, sZ, sS, i64_w, i32_w]
           rfl
          refine pure_ (i := 22) (N := some 62) (v := ?_) (a' := ?_) tq40 rfl rfl (any_of HT_.out (by kernel_rfl)) (fun _ _ _ h => h) (Or.inl ⟨by rfl, ?_⟩) ?_ ?_
          rotate_left
          ·intro w'
           go_simp
           with_reducible rfl
          rotate_left
          ·simp only [Act.put, sA, sZ, sS, i64_w, i32_w]
           rfl
          refine pure_ (i := 23) (N := some 63) (v := ?_) (a' := ?_) tq38 rfl rfl (any_of HT_.out (by kernel_rfl)) (fun _ _ _ h => h) (Or.inl ⟨by rfl, ?_⟩) ?_ ?_
          rotate_left
          ·intro w'
           go_simp
           with_reducible rfl
          rotate_left
          ·simp only [Act.put, sA, sZ, sS, i64_w, i32_w]
           rfl
          refine pure_ (i := 26) (N := some 66) (v := ?_) (a' := ?_) tq36 rfl rfl (any_of HT_.out (by kernel_rfl)) (fun _ _ _ h => h) (Or.inl ⟨by rfl, ?_⟩) ?_ ?_
          rotate_left
          ·intro w'
           go_simp
           with_reducible rfl
          rotate_left
          ·simp only [Act.put, sA, sZ, sS, i64_w, i32_w]
           rfl
          refine pure_ (i := 27) (N := some 67) (v := ?_) (a' := ?_) tq34 rfl rfl (any_of HT_.out (by kernel_rfl)) (fun _ _ _ h => h) (Or.inl ⟨by rfl, ?_⟩) ?_ ?_
          rotate_left
          ·intro w'
           go_simp
           with_reducible rfl
          rotate_left
          ·simp only [Act.put, sA, sZ, sS, i64_w, i32_w]
           rfl
          refine pure_ (i := 28) (N := some 68) (v := ?_) (a' := ?_) tq31 rfl rfl (any_of HT_.out (by kernel_rfl)) (fun _ _ _ h => h) (Or.inl ⟨by rfl, ?_⟩) ?_ ?_
          rotate_left
          ·intro w'
           go_simp
           with_reducible rfl
          rotate_left
          ·simp only [Act.put, sA, sZ, sS, i64_w, i32_w]
           rfl
          refine pure_ (i := 31) (N := some 71) (v := ?_) (a' := ?_) tq29 rfl rfl (any_of HT_.out (by kernel_rfl)) (fun _ _ _ h => h) (Or.inl ⟨by rfl, ?_⟩) ?_ ?_
          rotate_left
          ·intro w'
           go_simp
           with_reducible rfl
          rotate_left
          ·simp only [Act.put, sA, sZ, sS, i64_w, i32_w]
           rfl
          exact norm_ (by simp only [putAll, Act.put, sA, sZ, sS] <;> rfl) (hJ5_6_14_15 (v212, .slice Ao56 y225.length co56) _ ⟨hHeld, HO198.out, HO202.out, HO205.out, HO210.out, HO213.out, HO219.out, HO224.out, HO227.out, HO233.out, HO_1.out, BK194.out, HB.out⟩)
         skip
         rintro ⟨v212, v226⟩ w57 ⟨hS_, h0_, h1_, h2_, h3_, h4_, h5_, h6_, h7_, h8_, h9_, h10_, h11_⟩
         have n0_ : Aside0 (VN w57 w (fun k_ => (P1_ k_ ∨ w.heap.size ≤ k_) ∧ NB (.slice Ao24 y200.length co24) k_ ∧ NB v204 k_ ∧ NB v212 k_ ∧ NB v226 k_ ∧ k_ ≠ gb194) (.slice Ao19 y196.length co19) y196) := ⟨h0_⟩
         have n1_ : Aside0 (VN w57 w (fun k_ => (P1_ k_ ∨ w.heap.size ≤ k_) ∧ NB (.slice Ao19 y196.length co19) k_ ∧ NB v204 k_ ∧ NB v212 k_ ∧ NB v226 k_ ∧ k_ ≠ gb194) (.slice Ao24 y200.length co24) y200) := ⟨h1_⟩
         have n2_ : Aside0 (Kd.R (Kd.int .u8) 5 w57 w.heap.size (fun k_ => (w.heap.size ≤ k_)) v204 t203) := ⟨h2_⟩
         have n3_ : Aside0 (VV w57 w (fun k_ => (P1_ k_ ∨ w.heap.size ≤ k_) ∧ NB (.slice Ao19 y196.length co19) k_ ∧ NB (.slice Ao24 y200.length co24) k_ ∧ NB v204 k_ ∧ NB v212 k_ ∧ NB v226 k_ ∧ k_ ≠ gb194) (.slice A1 y206.length c1) y206) := ⟨h3_⟩
         have n4_ : Aside0 (VN w57 w (fun k_ => (P1_ k_ ∨ w.heap.size ≤ k_) ∧ NB (.slice Ao19 y196.length co19) k_ ∧ NB (.slice Ao24 y200.length co24) k_ ∧ NB v204 k_ ∧ NB v226 k_ ∧ k_ ≠ gb194) v212 y211) := ⟨h4_⟩
         have n5_ : Aside0 (VV w57 w (fun k_ => (P1_ k_ ∨ w.heap.size ≤ k_) ∧ NB (.slice Ao19 y196.length co19) k_ ∧ NB (.slice Ao24 y200.length co24) k_ ∧ NB v204 k_ ∧ NB v212 k_ ∧ NB v226 k_ ∧ k_ ≠ gb194) (.slice A46 y215.length c46) y215) := ⟨h5_⟩
         have n6_ : Aside0 (VV w57 w (fun k_ => (P1_ k_ ∨ w.heap.size ≤ k_) ∧ NB (.slice Ao19 y196.length co19) k_ ∧ NB (.slice Ao24 y200.length co24) k_ ∧ NB v204 k_ ∧ NB v212 k_ ∧ NB v226 k_ ∧ k_ ≠ gb194) (.slice A47 y220.length c47) y220) := ⟨h6_⟩
         have n7_ : Aside0 (VN w57 w (fun k_ => (P1_ k_ ∨ w.heap.size ≤ k_) ∧ NB (.slice Ao19 y196.length co19) k_ ∧ NB (.slice Ao24 y200.length co24) k_ ∧ NB v204 k_ ∧ NB v212 k_ ∧ k_ ≠ gb194) v226 y225) := ⟨h7_⟩
         have n8_ : Aside0 (VV w57 w (fun k_ => (P1_ k_ ∨ w.heap.size ≤ k_) ∧ NB (.slice Ao19 y196.length co19) k_ ∧ NB (.slice Ao24 y200.length co24) k_ ∧ NB v204 k_ ∧ NB v212 k_ ∧ NB v226 k_ ∧ k_ ≠ gb194) (.slice A1 y229.length c1) y229) := ⟨h8_⟩
         have n9_ : Aside0 (VV w57 w (fun k_ => (P1_ k_ ∨ w.heap.size ≤ k_) ∧ NB (.slice Ao19 y196.length co19) k_ ∧ NB (.slice Ao24 y200.length co24) k_ ∧ NB v204 k_ ∧ NB v212 k_ ∧ NB v226 k_ ∧ k_ ≠ gb194) (.slice A1 l1.length c1) l1) := ⟨h9_⟩
         have n10_ : Aside0 (w57.heap[gb194]? = some (.cells (tabC a0_0) 24 (0, 0))) := ⟨h10_⟩
         have n11_ : Aside0 (Below w.heap.size w w57) := ⟨h11_⟩
         clear HO_1
         clear HO198
         clear HO202
         clear HO205
         clear BK194
         clear HB
         clear h0_ h1_ h2_ h3_ h4_ h5_ h6_ h7_ h8_ h9_ h10_ h11_
         have HO198 := n0_
         have HO202 := n1_
         have HO205 := n2_
         have HO210 := n3_
         have HO213 := n4_
         have HO219 := n5_
         have HO224 := n6_
         have HO227 := n7_
         have HO233 := n8_
         have HO_1 := n9_
         have BK194 := n10_
         have HB := n11_
         clear n0_ n1_ n2_ n3_ n4_ n5_ n6_ n7_ n8_ n9_ n10_ n11_
         have hHeld : w57.heap[gb194]? = some (.cells (tabC a0_0) 24 (0, 0)) := hS_
         refine norm_ (a' := ?_) ?_ ?_
         rotate_left
         ·simp only [putAll, Act.put, sA, sZ, sS]
          rfl
         refine two_ (i := 24) (j := 29) (Ni := some 64) (Nj := some 69) tq27 tq26 rfl rfl rfl rfl (two_of HT_.out (by kernel_rfl)) (by decide) (by decide) (fun K hK => ?_) (fun K hK => ?_)
         ·skip
          refine lit1 (N' := 64) ?hd (ok := (fun k_ => (P1_ k_ ∨ w.heap.size ≤ k_) ∧ NB (.slice Ao19 y196.length co19) k_ ∧ NB (.slice Ao24 y200.length co24) k_ ∧ NB v204 k_ ∧ NB v212 k_ ∧ NB v226 k_ ∧ k_ ≠ gb194)) (Kd.V_mono (HO233.out) (fun k_ hk => ⟨hk.1, hk.2.1, hk.2.2.1, hk.2.2.2.1, hk.2.2.2.2.1, hk.2.2.2.2.2.1, hk.2.2.2.2.2.2⟩)) (fun k_ hk => ⟨.inr (fW HB hk), fN HO198 hk, fN HO202 hk, Kd.fresh' (Kd.R_lt HO205.out) k_ hk, fN HO213 hk, fN HO227 hk, fB BK194 hk⟩) ?hr HB.out ?_; (case hd => rfl); (case hr => first | (go_simp; done) | (go_simp; rfl))
          intro v235 w58 ho59 hb hg_ hnew_
          clear hg_ hnew_
          rw [← Ny234.out] at ho59
          have HO236 := nL ho59 HB
          replace HO_1 := vE HO_1 ho59 hb
          replace HO198 := nE HO198 ho59 hb
          replace HO202 := nE HO202 ho59 hb
          replace HO205 := rB HO205 hb
          replace HO210 := vE HO210 ho59 hb
          replace HO219 := vE HO219 ho59 hb
          replace HO224 := vE HO224 ho59 hb
          replace HO233 := vE HO233 ho59 hb
          replace HO213 := nE HO213 ho59 hb
          replace HO227 := nE HO227 ho59 hb
          replace BK194 := bB BK194 hb
          replace HB := hB HB hb
          clear hb ho59
          refine hK.out _ _ (BK194.out) (fun hHeld => ?_)
          clear hK K
          refine norm_ (a' := ?_) ?_ ?_
          rotate_left
          ·show Act.put _ (some 64) _ = _
           simp only [Act.put, sA, sZ, sS, i64_w, i32_w]
           rfl
          exact norm_ (by simp only [putAll, Act.put, sA, sZ, sS] <;> rfl) (hJ5_6_14_15_24 (v212, v226, v235) _ ⟨hHeld, (Kd.N_mono HO198.out (fun _ hk => ⟨hk.1.1, hk.1.2.1, hk.1.2.2.1, hk.1.2.2.2.1, hk.1.2.2.2.2.1, hk.2, hk.1.2.2.2.2.2⟩)), (Kd.N_mono HO202.out (fun _ hk => ⟨hk.1.1, hk.1.2.1, hk.1.2.2.1, hk.1.2.2.2.1, hk.1.2.2.2.2.1, hk.2, hk.1.2.2.2.2.2⟩)), HO205.out, (Kd.V_mono HO210.out (fun _ hk => ⟨hk.1.1, hk.1.2.1, hk.1.2.2.1, hk.1.2.2.2.1, hk.1.2.2.2.2.1, hk.1.2.2.2.2.2.1, hk.2, hk.1.2.2.2.2.2.2⟩)), (Kd.N_mono HO213.out (fun _ hk => ⟨hk.1.1, hk.1.2.1, hk.1.2.2.1, hk.1.2.2.2.1, hk.1.2.2.2.2.1, hk.2, hk.1.2.2.2.2.2⟩)), (Kd.V_mono HO219.out (fun _ hk => ⟨hk.1.1, hk.1.2.1, hk.1.2.2.1, hk.1.2.2.2.1, hk.1.2.2.2.2.1, hk.1.2.2.2.2.2.1, hk.2, hk.1.2.2.2.2.2.2⟩)), (Kd.V_mono HO224.out (fun _ hk => ⟨hk.1.1, hk.1.2.1, hk.1.2.2.1, hk.1.2.2.2.1, hk.1.2.2.2.2.1, hk.1.2.2.2.2.2.1, hk.2, hk.1.2.2.2.2.2.2⟩)), (Kd.N_mono HO227.out (fun _ hk => ⟨hk.1.1, hk.1.2.1, hk.1.2.2.1, hk.1.2.2.2.1, hk.1.2.2.2.2.1, hk.2, hk.1.2.2.2.2.2⟩)), (Kd.V_mono HO233.out (fun _ hk => ⟨hk.1.1, hk.1.2.1, hk.1.2.2.1, hk.1.2.2.2.1, hk.1.2.2.2.2.1, hk.1.2.2.2.2.2.1, hk.2, hk.1.2.2.2.2.2.2⟩)), HO236.out, (Kd.V_mono HO_1.out (fun _ hk => ⟨hk.1.1, hk.1.2.1, hk.1.2.2.1, hk.1.2.2.2.1, hk.1.2.2.2.2.1, hk.1.2.2.2.2.2.1, hk.2, hk.1.2.2.2.2.2.2⟩)), BK194.out, HB.out⟩)
         skip
         refine lit1 (N' := 69) ?hd (ok := (fun k_ => (P1_ k_ ∨ w.heap.size ≤ k_) ∧ NB (.slice Ao19 y196.length co19) k_ ∧ NB (.slice Ao24 y200.length co24) k_ ∧ NB v204 k_ ∧ NB v212 k_ ∧ NB v226 k_ ∧ k_ ≠ gb194)) (Kd.V_mono (HO224.out) (fun k_ hk => ⟨hk.1, hk.2.1, hk.2.2.1, hk.2.2.2.1, hk.2.2.2.2.1, hk.2.2.2.2.2.1, hk.2.2.2.2.2.2⟩)) (fun k_ hk => ⟨.inr (fW HB hk), fN HO198 hk, fN HO202 hk, Kd.fresh' (Kd.R_lt HO205.out) k_ hk, fN HO213 hk, fN HO227 hk, fB BK194 hk⟩) ?hr HB.out ?_; (case hd => rfl); (case hr => first | (go_simp; done) | (go_simp; rfl))
         intro v244 w58 ho59 hb hg_ hnew_
         clear hg_ hnew_
         rw [← Ny243.out] at ho59
         have HO245 := nL ho59 HB
         replace HO_1 := vE HO_1 ho59 hb
         replace HO198 := nE HO198 ho59 hb
         replace HO202 := nE HO202 ho59 hb
         replace HO205 := rB HO205 hb
         replace HO210 := vE HO210 ho59 hb
         replace HO219 := vE HO219 ho59 hb
         replace HO224 := vE HO224 ho59 hb
         replace HO233 := vE HO233 ho59 hb
         replace HO213 := nE HO213 ho59 hb
         replace HO227 := nE HO227 ho59 hb
         replace BK194 := bB BK194 hb
         replace HB := hB HB hb
         clear hb ho59
         refine hK.out _ _ (BK194.out) (fun hHeld => ?_)
         clear hK K
         refine norm_ (a' := ?_) ?_ ?_
         rotate_left
         ·show Act.put _ (some 69) _ = _
          simp only [Act.put, sA, sZ, sS, i64_w, i32_w]
          rfl
         exact norm_ (by simp only [putAll, Act.put, sA, sZ, sS] <;> rfl) (hJ5_6_14_15_29 (v212, v226, v244) _ ⟨hHeld, (Kd.N_mono HO198.out (fun _ hk => ⟨hk.1.1, hk.1.2.1, hk.1.2.2.1, hk.1.2.2.2.1, hk.1.2.2.2.2.1, hk.2, hk.1.2.2.2.2.2⟩)), (Kd.N_mono HO202.out (fun _ hk => ⟨hk.1.1, hk.1.2.1, hk.1.2.2.1, hk.1.2.2.2.1, hk.1.2.2.2.2.1, hk.2, hk.1.2.2.2.2.2⟩)), HO205.out, (Kd.V_mono HO210.out (fun _ hk => ⟨hk.1.1, hk.1.2.1, hk.1.2.2.1, hk.1.2.2.2.1, hk.1.2.2.2.2.1, hk.1.2.2.2.2.2.1, hk.2, hk.1.2.2.2.2.2.2⟩)), (Kd.N_mono HO213.out (fun _ hk => ⟨hk.1.1, hk.1.2.1, hk.1.2.2.1, hk.1.2.2.2.1, hk.1.2.2.2.2.1, hk.2, hk.1.2.2.2.2.2⟩)), (Kd.V_mono HO219.out (fun _ hk => ⟨hk.1.1, hk.1.2.1, hk.1.2.2.1, hk.1.2.2.2.1, hk.1.2.2.2.2.1, hk.1.2.2.2.2.2.1, hk.2, hk.1.2.2.2.2.2.2⟩)), (Kd.V_mono HO224.out (fun _ hk => ⟨hk.1.1, hk.1.2.1, hk.1.2.2.1, hk.1.2.2.2.1, hk.1.2.2.2.2.1, hk.1.2.2.2.2.2.1, hk.2, hk.1.2.2.2.2.2.2⟩)), (Kd.N_mono HO227.out (fun _ hk => ⟨hk.1.1, hk.1.2.1, hk.1.2.2.1, hk.1.2.2.2.1, hk.1.2.2.2.2.1, hk.2, hk.1.2.2.2.2.2⟩)), (Kd.V_mono HO233.out (fun _ hk => ⟨hk.1.1, hk.1.2.1, hk.1.2.2.1, hk.1.2.2.2.1, hk.1.2.2.2.2.1, hk.1.2.2.2.2.2.1, hk.2, hk.1.2.2.2.2.2.2⟩)), HO245.out, (Kd.V_mono HO_1.out (fun _ hk => ⟨hk.1.1, hk.1.2.1, hk.1.2.2.1, hk.1.2.2.2.1, hk.1.2.2.2.2.1, hk.1.2.2.2.2.2.1, hk.2, hk.1.2.2.2.2.2.2⟩)), BK194.out, HB.out⟩)
        skip
        rintro ⟨v212, v226, v244⟩ w59 ⟨hS_, h0_, h1_, h2_, h3_, h4_, h5_, h6_, h7_, h8_, h9_, h10_, h11_, h12_⟩
        have n0_ : Aside0 (VN w59 w (fun k_ => (P1_ k_ ∨ w.heap.size ≤ k_) ∧ NB (.slice Ao24 y200.length co24) k_ ∧ NB v204 k_ ∧ NB v212 k_ ∧ NB v226 k_ ∧ NB v244 k_ ∧ k_ ≠ gb194) (.slice Ao19 y196.length co19) y196) := ⟨h0_⟩
        have n1_ : Aside0 (VN w59 w (fun k_ => (P1_ k_ ∨ w.heap.size ≤ k_) ∧ NB (.slice Ao19 y196.length co19) k_ ∧ NB v204 k_ ∧ NB v212 k_ ∧ NB v226 k_ ∧ NB v244 k_ ∧ k_ ≠ gb194) (.slice Ao24 y200.length co24) y200) := ⟨h1_⟩
        have n2_ : Aside0 (Kd.R (Kd.int .u8) 5 w59 w.heap.size (fun k_ => (w.heap.size ≤ k_)) v204 t203) := ⟨h2_⟩
        have n3_ : Aside0 (VV w59 w (fun k_ => (P1_ k_ ∨ w.heap.size ≤ k_) ∧ NB (.slice Ao19 y196.length co19) k_ ∧ NB (.slice Ao24 y200.length co24) k_ ∧ NB v204 k_ ∧ NB v212 k_ ∧ NB v226 k_ ∧ NB v244 k_ ∧ k_ ≠ gb194) (.slice A1 y206.length c1) y206) := ⟨h3_⟩
        have n4_ : Aside0 (VN w59 w (fun k_ => (P1_ k_ ∨ w.heap.size ≤ k_) ∧ NB (.slice Ao19 y196.length co19) k_ ∧ NB (.slice Ao24 y200.length co24) k_ ∧ NB v204 k_ ∧ NB v226 k_ ∧ NB v244 k_ ∧ k_ ≠ gb194) v212 y211) := ⟨h4_⟩
        have n5_ : Aside0 (VV w59 w (fun k_ => (P1_ k_ ∨ w.heap.size ≤ k_) ∧ NB (.slice Ao19 y196.length co19) k_ ∧ NB (.slice Ao24 y200.length co24) k_ ∧ NB v204 k_ ∧ NB v212 k_ ∧ NB v226 k_ ∧ NB v244 k_ ∧ k_ ≠ gb194) (.slice A46 y215.length c46) y215) := ⟨h5_⟩
        have n6_ : Aside0 (VV w59 w (fun k_ => (P1_ k_ ∨ w.heap.size ≤ k_) ∧ NB (.slice Ao19 y196.length co19) k_ ∧ NB (.slice Ao24 y200.length co24) k_ ∧ NB v204 k_ ∧ NB v212 k_ ∧ NB v226 k_ ∧ NB v244 k_ ∧ k_ ≠ gb194) (.slice A47 y220.length c47) y220) := ⟨h6_⟩
        have n7_ : Aside0 (VN w59 w (fun k_ => (P1_ k_ ∨ w.heap.size ≤ k_) ∧ NB (.slice Ao19 y196.length co19) k_ ∧ NB (.slice Ao24 y200.length co24) k_ ∧ NB v204 k_ ∧ NB v212 k_ ∧ NB v244 k_ ∧ k_ ≠ gb194) v226 y225) := ⟨h7_⟩
        have n8_ : Aside0 (VV w59 w (fun k_ => (P1_ k_ ∨ w.heap.size ≤ k_) ∧ NB (.slice Ao19 y196.length co19) k_ ∧ NB (.slice Ao24 y200.length co24) k_ ∧ NB v204 k_ ∧ NB v212 k_ ∧ NB v226 k_ ∧ NB v244 k_ ∧ k_ ≠ gb194) (.slice A1 y229.length c1) y229) := ⟨h8_⟩
        have n9_ : Aside0 (VN w59 w (fun k_ => (P1_ k_ ∨ w.heap.size ≤ k_) ∧ NB (.slice Ao19 y196.length co19) k_ ∧ NB (.slice Ao24 y200.length co24) k_ ∧ NB v204 k_ ∧ NB v212 k_ ∧ NB v226 k_ ∧ k_ ≠ gb194) v244 y243) := ⟨h9_⟩
        have n10_ : Aside0 (VV w59 w (fun k_ => (P1_ k_ ∨ w.heap.size ≤ k_) ∧ NB (.slice Ao19 y196.length co19) k_ ∧ NB (.slice Ao24 y200.length co24) k_ ∧ NB v204 k_ ∧ NB v212 k_ ∧ NB v226 k_ ∧ NB v244 k_ ∧ k_ ≠ gb194) (.slice A1 l1.length c1) l1) := ⟨h10_⟩
        have n11_ : Aside0 (w59.heap[gb194]? = some (.cells (tabC a0_0) 24 (0, 0))) := ⟨h11_⟩
        have n12_ : Aside0 (Below w.heap.size w w59) := ⟨h12_⟩
        clear HO_1
        clear HO198
        clear HO202
        clear HO205
        clear BK194
        clear HB
        clear h0_ h1_ h2_ h3_ h4_ h5_ h6_ h7_ h8_ h9_ h10_ h11_ h12_
        have HO198 := n0_
        have HO202 := n1_
        have HO205 := n2_
        have HO210 := n3_
        have HO213 := n4_
        have HO219 := n5_
        have HO224 := n6_
        have HO227 := n7_
        have HO233 := n8_
        have HO245 := n9_
        have HO_1 := n10_
        have BK194 := n11_
        have HB := n12_
        clear n0_ n1_ n2_ n3_ n4_ n5_ n6_ n7_ n8_ n9_ n10_ n11_ n12_
        have hHeld : w59.heap[gb194]? = some (.cells (tabC a0_0) 24 (0, 0)) := hS_
        refine norm_ (a' := ?_) ?_ ?_
        rotate_left
        ·simp only [putAll, Act.put, sA, sZ, sS]
         rfl
        refine one_ (i := 24) (N := some 64) tq23 rfl rfl (one_of HT_.out (by kernel_rfl)) (by decide) (fun K hK => ?_)
        refine lit1 (N' := 64) ?hd (ok := (fun k_ => (P1_ k_ ∨ w.heap.size ≤ k_) ∧ NB (.slice Ao19 y196.length co19) k_ ∧ NB (.slice Ao24 y200.length co24) k_ ∧ NB v204 k_ ∧ NB v212 k_ ∧ NB v226 k_ ∧ NB v244 k_ ∧ k_ ≠ gb194)) (Kd.V_mono (HO233.out) (fun k_ hk => ⟨hk.1, hk.2.1, hk.2.2.1, hk.2.2.2.1, hk.2.2.2.2.1, hk.2.2.2.2.2.1, hk.2.2.2.2.2.2.1, hk.2.2.2.2.2.2.2⟩)) (fun k_ hk => ⟨.inr (fW HB hk), fN HO198 hk, fN HO202 hk, Kd.fresh' (Kd.R_lt HO205.out) k_ hk, fN HO213 hk, fN HO227 hk, fN HO245 hk, fB BK194 hk⟩) ?hr HB.out ?_; (case hd => rfl); (case hr => first | (go_simp; done) | (go_simp; rfl))
        intro v235 w60 ho61 hb hg_ hnew_
        clear hg_ hnew_
        rw [← Ny234.out] at ho61
        have HO236 := nL ho61 HB
        replace HO_1 := vE HO_1 ho61 hb
        replace HO198 := nE HO198 ho61 hb
        replace HO202 := nE HO202 ho61 hb
        replace HO205 := rB HO205 hb
        replace HO210 := vE HO210 ho61 hb
        replace HO219 := vE HO219 ho61 hb
        replace HO224 := vE HO224 ho61 hb
        replace HO233 := vE HO233 ho61 hb
        replace HO213 := nE HO213 ho61 hb
        replace HO227 := nE HO227 ho61 hb
        replace HO245 := nE HO245 ho61 hb
        replace BK194 := bB BK194 hb
        replace HB := hB HB hb
        clear hb ho61
        refine hK.out _ _ (BK194.out) (fun hHeld => ?_)
        clear hK K
        refine norm_ (a' := ?_) ?_ ?_
        rotate_left
        ·show Act.put _ (some 64) _ = _
         simp only [Act.put, sA, sZ, sS, i64_w, i32_w]
         rfl
        exact norm_ (by simp only [putAll, Act.put, sA, sZ, sS] <;> rfl) (hJ5_6_14_15_24_29 (v212, v226, v235, v244) _ ⟨hHeld, (Kd.N_mono HO198.out (fun _ hk => ⟨hk.1.1, hk.1.2.1, hk.1.2.2.1, hk.1.2.2.2.1, hk.1.2.2.2.2.1, hk.2, hk.1.2.2.2.2.2.1, hk.1.2.2.2.2.2.2⟩)), (Kd.N_mono HO202.out (fun _ hk => ⟨hk.1.1, hk.1.2.1, hk.1.2.2.1, hk.1.2.2.2.1, hk.1.2.2.2.2.1, hk.2, hk.1.2.2.2.2.2.1, hk.1.2.2.2.2.2.2⟩)), HO205.out, (Kd.V_mono HO210.out (fun _ hk => ⟨hk.1.1, hk.1.2.1, hk.1.2.2.1, hk.1.2.2.2.1, hk.1.2.2.2.2.1, hk.1.2.2.2.2.2.1, hk.2, hk.1.2.2.2.2.2.2.1, hk.1.2.2.2.2.2.2.2⟩)), (Kd.N_mono HO213.out (fun _ hk => ⟨hk.1.1, hk.1.2.1, hk.1.2.2.1, hk.1.2.2.2.1, hk.1.2.2.2.2.1, hk.2, hk.1.2.2.2.2.2.1, hk.1.2.2.2.2.2.2⟩)), (Kd.V_mono HO219.out (fun _ hk => ⟨hk.1.1, hk.1.2.1, hk.1.2.2.1, hk.1.2.2.2.1, hk.1.2.2.2.2.1, hk.1.2.2.2.2.2.1, hk.2, hk.1.2.2.2.2.2.2.1, hk.1.2.2.2.2.2.2.2⟩)), (Kd.V_mono HO224.out (fun _ hk => ⟨hk.1.1, hk.1.2.1, hk.1.2.2.1, hk.1.2.2.2.1, hk.1.2.2.2.2.1, hk.1.2.2.2.2.2.1, hk.2, hk.1.2.2.2.2.2.2.1, hk.1.2.2.2.2.2.2.2⟩)), (Kd.N_mono HO227.out (fun _ hk => ⟨hk.1.1, hk.1.2.1, hk.1.2.2.1, hk.1.2.2.2.1, hk.1.2.2.2.2.1, hk.2, hk.1.2.2.2.2.2.1, hk.1.2.2.2.2.2.2⟩)), (Kd.V_mono HO233.out (fun _ hk => ⟨hk.1.1, hk.1.2.1, hk.1.2.2.1, hk.1.2.2.2.1, hk.1.2.2.2.2.1, hk.1.2.2.2.2.2.1, hk.2, hk.1.2.2.2.2.2.2.1, hk.1.2.2.2.2.2.2.2⟩)), HO236.out, (Kd.N_mono HO245.out (fun _ hk => ⟨hk.1.1, hk.1.2.1, hk.1.2.2.1, hk.1.2.2.2.1, hk.1.2.2.2.2.1, hk.1.2.2.2.2.2.1, hk.2, hk.1.2.2.2.2.2.2⟩)), (Kd.V_mono HO_1.out (fun _ hk => ⟨hk.1.1, hk.1.2.1, hk.1.2.2.1, hk.1.2.2.2.1, hk.1.2.2.2.2.1, hk.1.2.2.2.2.2.1, hk.2, hk.1.2.2.2.2.2.2.1, hk.1.2.2.2.2.2.2.2⟩)), BK194.out, HB.out⟩)
       skip
       rintro ⟨v212, v226, v235⟩ w59 ⟨hS_, h0_, h1_, h2_, h3_, h4_, h5_, h6_, h7_, h8_, h9_, h10_, h11_, h12_⟩
       have n0_ : Aside0 (VN w59 w (fun k_ => (P1_ k_ ∨ w.heap.size ≤ k_) ∧ NB (.slice Ao24 y200.length co24) k_ ∧ NB v204 k_ ∧ NB v212 k_ ∧ NB v226 k_ ∧ NB v235 k_ ∧ k_ ≠ gb194) (.slice Ao19 y196.length co19) y196) := ⟨h0_⟩
       have n1_ : Aside0 (VN w59 w (fun k_ => (P1_ k_ ∨ w.heap.size ≤ k_) ∧ NB (.slice Ao19 y196.length co19) k_ ∧ NB v204 k_ ∧ NB v212 k_ ∧ NB v226 k_ ∧ NB v235 k_ ∧ k_ ≠ gb194) (.slice Ao24 y200.length co24) y200) := ⟨h1_⟩
       have n2_ : Aside0 (Kd.R (Kd.int .u8) 5 w59 w.heap.size (fun k_ => (w.heap.size ≤ k_)) v204 t203) := ⟨h2_⟩
       have n3_ : Aside0 (VV w59 w (fun k_ => (P1_ k_ ∨ w.heap.size ≤ k_) ∧ NB (.slice Ao19 y196.length co19) k_ ∧ NB (.slice Ao24 y200.length co24) k_ ∧ NB v204 k_ ∧ NB v212 k_ ∧ NB v226 k_ ∧ NB v235 k_ ∧ k_ ≠ gb194) (.slice A1 y206.length c1) y206) := ⟨h3_⟩
       have n4_ : Aside0 (VN w59 w (fun k_ => (P1_ k_ ∨ w.heap.size ≤ k_) ∧ NB (.slice Ao19 y196.length co19) k_ ∧ NB (.slice Ao24 y200.length co24) k_ ∧ NB v204 k_ ∧ NB v226 k_ ∧ NB v235 k_ ∧ k_ ≠ gb194) v212 y211) := ⟨h4_⟩
       have n5_ : Aside0 (VV w59 w (fun k_ => (P1_ k_ ∨ w.heap.size ≤ k_) ∧ NB (.slice Ao19 y196.length co19) k_ ∧ NB (.slice Ao24 y200.length co24) k_ ∧ NB v204 k_ ∧ NB v212 k_ ∧ NB v226 k_ ∧ NB v235 k_ ∧ k_ ≠ gb194) (.slice A46 y215.length c46) y215) := ⟨h5_⟩
       have n6_ : Aside0 (VV w59 w (fun k_ => (P1_ k_ ∨ w.heap.size ≤ k_) ∧ NB (.slice Ao19 y196.length co19) k_ ∧ NB (.slice Ao24 y200.length co24) k_ ∧ NB v204 k_ ∧ NB v212 k_ ∧ NB v226 k_ ∧ NB v235 k_ ∧ k_ ≠ gb194) (.slice A47 y220.length c47) y220) := ⟨h6_⟩
       have n7_ : Aside0 (VN w59 w (fun k_ => (P1_ k_ ∨ w.heap.size ≤ k_) ∧ NB (.slice Ao19 y196.length co19) k_ ∧ NB (.slice Ao24 y200.length co24) k_ ∧ NB v204 k_ ∧ NB v212 k_ ∧ NB v235 k_ ∧ k_ ≠ gb194) v226 y225) := ⟨h7_⟩
       have n8_ : Aside0 (VV w59 w (fun k_ => (P1_ k_ ∨ w.heap.size ≤ k_) ∧ NB (.slice Ao19 y196.length co19) k_ ∧ NB (.slice Ao24 y200.length co24) k_ ∧ NB v204 k_ ∧ NB v212 k_ ∧ NB v226 k_ ∧ NB v235 k_ ∧ k_ ≠ gb194) (.slice A1 y229.length c1) y229) := ⟨h8_⟩
       have n9_ : Aside0 (VN w59 w (fun k_ => (P1_ k_ ∨ w.heap.size ≤ k_) ∧ NB (.slice Ao19 y196.length co19) k_ ∧ NB (.slice Ao24 y200.length co24) k_ ∧ NB v204 k_ ∧ NB v212 k_ ∧ NB v226 k_ ∧ k_ ≠ gb194) v235 y234) := ⟨h9_⟩
       have n10_ : Aside0 (VV w59 w (fun k_ => (P1_ k_ ∨ w.heap.size ≤ k_) ∧ NB (.slice Ao19 y196.length co19) k_ ∧ NB (.slice Ao24 y200.length co24) k_ ∧ NB v204 k_ ∧ NB v212 k_ ∧ NB v226 k_ ∧ NB v235 k_ ∧ k_ ≠ gb194) (.slice A1 l1.length c1) l1) := ⟨h10_⟩
       have n11_ : Aside0 (w59.heap[gb194]? = some (.cells (tabC a0_0) 24 (0, 0))) := ⟨h11_⟩
       have n12_ : Aside0 (Below w.heap.size w w59) := ⟨h12_⟩
       clear HO_1
       clear HO198
       clear HO202
       clear HO205
       clear BK194
       clear HB
       clear h0_ h1_ h2_ h3_ h4_ h5_ h6_ h7_ h8_ h9_ h10_ h11_ h12_
       have HO198 := n0_
       have HO202 := n1_
       have HO205 := n2_
       have HO210 := n3_
       have HO213 := n4_
       have HO219 := n5_
       have HO224 := n6_
       have HO227 := n7_
       have HO233 := n8_
       have HO236 := n9_
       have HO_1 := n10_
       have BK194 := n11_
       have HB := n12_
       clear n0_ n1_ n2_ n3_ n4_ n5_ n6_ n7_ n8_ n9_ n10_ n11_ n12_
       have hHeld : w59.heap[gb194]? = some (.cells (tabC a0_0) 24 (0, 0)) := hS_
       obtain ⟨Ao60, co60, eo60⟩ := Kd.N_slice HO236.out
       (first | subst eo60 | (injection eo60 with f1_ f2_ f3_; have f4_ := f1_.symm; have f5_ := f3_.symm; clear f1_ f2_ f3_; subst f4_; subst f5_))
       refine norm_ (a' := ?_) ?_ ?_
       rotate_left
       ·simp only [putAll, Act.put, sA, sZ, sS]
        rfl
       refine two_ (i := 25) (j := 29) (Ni := some 65) (Nj := some 69) tq25 tq23 rfl rfl rfl rfl (two_of HT_.out (by kernel_rfl)) (by decide) (by decide) (fun K hK => ?_) (fun K hK => ?_)
       ·skip
        refine goes_ Try.func17 (by kernel_rfl) rfl #[.agg (tabC a0_0), .int .u32 0, .slice Ao60 y234.length co60] (by rfl) rfl rfl (by (try simp only [List.map_toArray, List.map_cons, List.map_nil]); first | done | rfl | (simp only [List.length_drop, List.length_take]; rfl)) ?_
        with_reducible refine (crc_More.calls kj5 a0_0 0 _ _ y234 t237 _ ?side1 ?side2 A38.out).mono ?_
        (case side1 => repeat (first | exact (Kd.N_reads' HO236.out).2.2 | (with_reducible refine Kd.C_alloc ?_ _) | (with_reducible refine Kd.C_drewN ?_ _) | (with_reducible refine Kd.C_drew ?_)))
        (case side2 => exact (Kd.N_reads' HO236.out).2.1)
        rintro e w61 ⟨rfl, hb⟩
        refine ⟨_, rfl, ?_⟩
        replace HO_1 := vB HO_1 hb
        replace HO198 := nB HO198 hb
        replace HO202 := nB HO202 hb
        replace HO205 := rB HO205 hb
        replace HO210 := vB HO210 hb
        replace HO219 := vB HO219 hb
        replace HO224 := vB HO224 hb
        replace HO233 := vB HO233 hb
        replace HO213 := nB HO213 hb
        replace HO227 := nB HO227 hb
        replace HO236 := nB HO236 hb
        replace BK194 := bB BK194 hb
        replace HB := hB HB hb
        (try clear hb)
        (try clear hb2)
        (try clear hk)
        (try clear hi)
        refine hK.out _ _ (BK194.out) (fun hHeld => ?_)
        clear hK K
        refine norm_ (a' := ?_) ?_ ?_
        rotate_left
        ·show Act.put _ (some 65) _ = _
         simp only [Act.put, sA, sZ, sS, i64_w, i32_w]
         rfl
        exact norm_ (by simp only [putAll, Act.put, sA, sZ, sS] <;> rfl) (hJ5_6_14_15_24_25 (v212, v226, .slice Ao60 y234.length co60) _ ⟨hHeld, HO198.out, HO202.out, HO205.out, HO210.out, HO213.out, HO219.out, HO224.out, HO227.out, HO233.out, HO236.out, HO_1.out, BK194.out, HB.out⟩)
       skip
       refine lit1 (N' := 69) ?hd (ok := (fun k_ => (P1_ k_ ∨ w.heap.size ≤ k_) ∧ NB (.slice Ao19 y196.length co19) k_ ∧ NB (.slice Ao24 y200.length co24) k_ ∧ NB v204 k_ ∧ NB v212 k_ ∧ NB v226 k_ ∧ NB (.slice Ao60 y234.length co60) k_ ∧ k_ ≠ gb194)) (Kd.V_mono (HO224.out) (fun k_ hk => ⟨hk.1, hk.2.1, hk.2.2.1, hk.2.2.2.1, hk.2.2.2.2.1, hk.2.2.2.2.2.1, hk.2.2.2.2.2.2.1, hk.2.2.2.2.2.2.2⟩)) (fun k_ hk => ⟨.inr (fW HB hk), fN HO198 hk, fN HO202 hk, Kd.fresh' (Kd.R_lt HO205.out) k_ hk, fN HO213 hk, fN HO227 hk, fN HO236 hk, fB BK194 hk⟩) ?hr HB.out ?_; (case hd => rfl); (case hr => first | (go_simp; done) | (go_simp; rfl))
       intro v244 w60 ho61 hb hg_ hnew_
       clear hg_ hnew_
       rw [← Ny243.out] at ho61
       have HO245 := nL ho61 HB
       replace HO_1 := vE HO_1 ho61 hb
       replace HO198 := nE HO198 ho61 hb
       replace HO202 := nE HO202 ho61 hb
       replace HO205 := rB HO205 hb
       replace HO210 := vE HO210 ho61 hb
       replace HO219 := vE HO219 ho61 hb
       replace HO224 := vE HO224 ho61 hb
       replace HO233 := vE HO233 ho61 hb
       replace HO213 := nE HO213 ho61 hb
       replace HO227 := nE HO227 ho61 hb
       replace HO236 := nE HO236 ho61 hb
       replace BK194 := bB BK194 hb
       replace HB := hB HB hb
       clear hb ho61
       refine hK.out _ _ (BK194.out) (fun hHeld => ?_)
       clear hK K
       refine norm_ (a' := ?_) ?_ ?_
       rotate_left
       ·show Act.put _ (some 69) _ = _
        simp only [Act.put, sA, sZ, sS, i64_w, i32_w]
        rfl
       exact norm_ (by simp only [putAll, Act.put, sA, sZ, sS] <;> rfl) (hJ5_6_14_15_24_29 (v212, v226, .slice Ao60 y234.length co60, v244) _ ⟨hHeld, (Kd.N_mono HO198.out (fun _ hk => ⟨hk.1.1, hk.1.2.1, hk.1.2.2.1, hk.1.2.2.2.1, hk.1.2.2.2.2.1, hk.1.2.2.2.2.2.1, hk.2, hk.1.2.2.2.2.2.2⟩)), (Kd.N_mono HO202.out (fun _ hk => ⟨hk.1.1, hk.1.2.1, hk.1.2.2.1, hk.1.2.2.2.1, hk.1.2.2.2.2.1, hk.1.2.2.2.2.2.1, hk.2, hk.1.2.2.2.2.2.2⟩)), HO205.out, (Kd.V_mono HO210.out (fun _ hk => ⟨hk.1.1, hk.1.2.1, hk.1.2.2.1, hk.1.2.2.2.1, hk.1.2.2.2.2.1, hk.1.2.2.2.2.2.1, hk.1.2.2.2.2.2.2.1, hk.2, hk.1.2.2.2.2.2.2.2⟩)), (Kd.N_mono HO213.out (fun _ hk => ⟨hk.1.1, hk.1.2.1, hk.1.2.2.1, hk.1.2.2.2.1, hk.1.2.2.2.2.1, hk.1.2.2.2.2.2.1, hk.2, hk.1.2.2.2.2.2.2⟩)), (Kd.V_mono HO219.out (fun _ hk => ⟨hk.1.1, hk.1.2.1, hk.1.2.2.1, hk.1.2.2.2.1, hk.1.2.2.2.2.1, hk.1.2.2.2.2.2.1, hk.1.2.2.2.2.2.2.1, hk.2, hk.1.2.2.2.2.2.2.2⟩)), (Kd.V_mono HO224.out (fun _ hk => ⟨hk.1.1, hk.1.2.1, hk.1.2.2.1, hk.1.2.2.2.1, hk.1.2.2.2.2.1, hk.1.2.2.2.2.2.1, hk.1.2.2.2.2.2.2.1, hk.2, hk.1.2.2.2.2.2.2.2⟩)), (Kd.N_mono HO227.out (fun _ hk => ⟨hk.1.1, hk.1.2.1, hk.1.2.2.1, hk.1.2.2.2.1, hk.1.2.2.2.2.1, hk.1.2.2.2.2.2.1, hk.2, hk.1.2.2.2.2.2.2⟩)), (Kd.V_mono HO233.out (fun _ hk => ⟨hk.1.1, hk.1.2.1, hk.1.2.2.1, hk.1.2.2.2.1, hk.1.2.2.2.2.1, hk.1.2.2.2.2.2.1, hk.1.2.2.2.2.2.2.1, hk.2, hk.1.2.2.2.2.2.2.2⟩)), (Kd.N_mono HO236.out (fun _ hk => ⟨hk.1.1, hk.1.2.1, hk.1.2.2.1, hk.1.2.2.2.1, hk.1.2.2.2.2.1, hk.1.2.2.2.2.2.1, hk.2, hk.1.2.2.2.2.2.2⟩)), HO245.out, (Kd.V_mono HO_1.out (fun _ hk => ⟨hk.1.1, hk.1.2.1, hk.1.2.2.1, hk.1.2.2.2.1, hk.1.2.2.2.2.1, hk.1.2.2.2.2.2.1, hk.1.2.2.2.2.2.2.1, hk.2, hk.1.2.2.2.2.2.2.2⟩)), BK194.out, HB.out⟩)
      skip
      rintro ⟨v212, v226, v235, v244⟩ w61 ⟨hS_, h0_, h1_, h2_, h3_, h4_, h5_, h6_, h7_, h8_, h9_, h10_, h11_, h12_, h13_⟩
      have n0_ : Aside0 (VN w61 w (fun k_ => (P1_ k_ ∨ w.heap.size ≤ k_) ∧ NB (.slice Ao24 y200.length co24) k_ ∧ NB v204 k_ ∧ NB v212 k_ ∧ NB v226 k_ ∧ NB v235 k_ ∧ NB v244 k_ ∧ k_ ≠ gb194) (.slice Ao19 y196.length co19) y196) := ⟨h0_⟩
      have n1_ : Aside0 (VN w61 w (fun k_ => (P1_ k_ ∨ w.heap.size ≤ k_) ∧ NB (.slice Ao19 y196.length co19) k_ ∧ NB v204 k_ ∧ NB v212 k_ ∧ NB v226 k_ ∧ NB v235 k_ ∧ NB v244 k_ ∧ k_ ≠ gb194) (.slice Ao24 y200.length co24) y200) := ⟨h1_⟩
      have n2_ : Aside0 (Kd.R (Kd.int .u8) 5 w61 w.heap.size (fun k_ => (w.heap.size ≤ k_)) v204 t203) := ⟨h2_⟩
      have n3_ : Aside0 (VV w61 w (fun k_ => (P1_ k_ ∨ w.heap.size ≤ k_) ∧ NB (.slice Ao19 y196.length co19) k_ ∧ NB (.slice Ao24 y200.length co24) k_ ∧ NB v204 k_ ∧ NB v212 k_ ∧ NB v226 k_ ∧ NB v235 k_ ∧ NB v244 k_ ∧ k_ ≠ gb194) (.slice A1 y206.length c1) y206) := ⟨h3_⟩
      have n4_ : Aside0 (VN w61 w (fun k_ => (P1_ k_ ∨ w.heap.size ≤ k_) ∧ NB (.slice Ao19 y196.length co19) k_ ∧ NB (.slice Ao24 y200.length co24) k_ ∧ NB v204 k_ ∧ NB v226 k_ ∧ NB v235 k_ ∧ NB v244 k_ ∧ k_ ≠ gb194) v212 y211) := ⟨h4_⟩
      have n5_ : Aside0 (VV w61 w (fun k_ => (P1_ k_ ∨ w.heap.size ≤ k_) ∧ NB (.slice Ao19 y196.length co19) k_ ∧ NB (.slice Ao24 y200.length co24) k_ ∧ NB v204 k_ ∧ NB v212 k_ ∧ NB v226 k_ ∧ NB v235 k_ ∧ NB v244 k_ ∧ k_ ≠ gb194) (.slice A46 y215.length c46) y215) := ⟨h5_⟩
      have n6_ : Aside0 (VV w61 w (fun k_ => (P1_ k_ ∨ w.heap.size ≤ k_) ∧ NB (.slice Ao19 y196.length co19) k_ ∧ NB (.slice Ao24 y200.length co24) k_ ∧ NB v204 k_ ∧ NB v212 k_ ∧ NB v226 k_ ∧ NB v235 k_ ∧ NB v244 k_ ∧ k_ ≠ gb194) (.slice A47 y220.length c47) y220) := ⟨h6_⟩
      have n7_ : Aside0 (VN w61 w (fun k_ => (P1_ k_ ∨ w.heap.size ≤ k_) ∧ NB (.slice Ao19 y196.length co19) k_ ∧ NB (.slice Ao24 y200.length co24) k_ ∧ NB v204 k_ ∧ NB v212 k_ ∧ NB v235 k_ ∧ NB v244 k_ ∧ k_ ≠ gb194) v226 y225) := ⟨h7_⟩
      have n8_ : Aside0 (VV w61 w (fun k_ => (P1_ k_ ∨ w.heap.size ≤ k_) ∧ NB (.slice Ao19 y196.length co19) k_ ∧ NB (.slice Ao24 y200.length co24) k_ ∧ NB v204 k_ ∧ NB v212 k_ ∧ NB v226 k_ ∧ NB v235 k_ ∧ NB v244 k_ ∧ k_ ≠ gb194) (.slice A1 y229.length c1) y229) := ⟨h8_⟩
      have n9_ : Aside0 (VN w61 w (fun k_ => (P1_ k_ ∨ w.heap.size ≤ k_) ∧ NB (.slice Ao19 y196.length co19) k_ ∧ NB (.slice Ao24 y200.length co24) k_ ∧ NB v204 k_ ∧ NB v212 k_ ∧ NB v226 k_ ∧ NB v244 k_ ∧ k_ ≠ gb194) v235 y234) := ⟨h9_⟩
      have n10_ : Aside0 (VN w61 w (fun k_ => (P1_ k_ ∨ w.heap.size ≤ k_) ∧ NB (.slice Ao19 y196.length co19) k_ ∧ NB (.slice Ao24 y200.length co24) k_ ∧ NB v204 k_ ∧ NB v212 k_ ∧ NB v226 k_ ∧ NB v235 k_ ∧ k_ ≠ gb194) v244 y243) := ⟨h10_⟩
      have n11_ : Aside0 (VV w61 w (fun k_ => (P1_ k_ ∨ w.heap.size ≤ k_) ∧ NB (.slice Ao19 y196.length co19) k_ ∧ NB (.slice Ao24 y200.length co24) k_ ∧ NB v204 k_ ∧ NB v212 k_ ∧ NB v226 k_ ∧ NB v235 k_ ∧ NB v244 k_ ∧ k_ ≠ gb194) (.slice A1 l1.length c1) l1) := ⟨h11_⟩
      have n12_ : Aside0 (w61.heap[gb194]? = some (.cells (tabC a0_0) 24 (0, 0))) := ⟨h12_⟩
      have n13_ : Aside0 (Below w.heap.size w w61) := ⟨h13_⟩
      clear HO_1
      clear HO198
      clear HO202
      clear HO205
      clear BK194
      clear HB
      clear h0_ h1_ h2_ h3_ h4_ h5_ h6_ h7_ h8_ h9_ h10_ h11_ h12_ h13_
      have HO198 := n0_
      have HO202 := n1_
      have HO205 := n2_
      have HO210 := n3_
      have HO213 := n4_
      have HO219 := n5_
      have HO224 := n6_
      have HO227 := n7_
      have HO233 := n8_
      have HO236 := n9_
      have HO245 := n10_
      have HO_1 := n11_
      have BK194 := n12_
      have HB := n13_
      clear n0_ n1_ n2_ n3_ n4_ n5_ n6_ n7_ n8_ n9_ n10_ n11_ n12_ n13_
      have hHeld : w61.heap[gb194]? = some (.cells (tabC a0_0) 24 (0, 0)) := hS_
      obtain ⟨Ao62, co62, eo62⟩ := Kd.N_slice HO236.out
      (first | subst eo62 | (injection eo62 with f1_ f2_ f3_; have f4_ := f1_.symm; have f5_ := f3_.symm; clear f1_ f2_ f3_; subst f4_; subst f5_))
      refine norm_ (a' := ?_) ?_ ?_
      rotate_left
      ·simp only [putAll, Act.put, sA, sZ, sS]
       rfl
      refine one_ (i := 25) (N := some 65) tq21 rfl rfl (one_of HT_.out (by kernel_rfl)) (by decide) (fun K hK => ?_)
      refine goes_ Try.func17 (by kernel_rfl) rfl #[.agg (tabC a0_0), .int .u32 0, .slice Ao62 y234.length co62] (by rfl) rfl rfl (by (try simp only [List.map_toArray, List.map_cons, List.map_nil]); first | done | rfl | (simp only [List.length_drop, List.length_take]; rfl)) ?_
      with_reducible refine (crc_More.calls kj5 a0_0 0 _ _ y234 t237 _ ?side1 ?side2 A38.out).mono ?_
      (case side1 => repeat (first | exact (Kd.N_reads' HO236.out).2.2 | (with_reducible refine Kd.C_alloc ?_ _) | (with_reducible refine Kd.C_drewN ?_ _) | (with_reducible refine Kd.C_drew ?_)))
      (case side2 => exact (Kd.N_reads' HO236.out).2.1)
      rintro e w63 ⟨rfl, hb⟩
      refine ⟨_, rfl, ?_⟩
      replace HO_1 := vB HO_1 hb
      replace HO198 := nB HO198 hb
      replace HO202 := nB HO202 hb
      replace HO205 := rB HO205 hb
      replace HO210 := vB HO210 hb
      replace HO219 := vB HO219 hb
      replace HO224 := vB HO224 hb
      replace HO233 := vB HO233 hb
      replace HO213 := nB HO213 hb
      replace HO227 := nB HO227 hb
      replace HO236 := nB HO236 hb
      replace HO245 := nB HO245 hb
      replace BK194 := bB BK194 hb
      replace HB := hB HB hb
      (try clear hb)
      (try clear hb2)
      (try clear hk)
      (try clear hi)
      refine hK.out _ _ (BK194.out) (fun hHeld => ?_)
      clear hK K
      refine norm_ (a' := ?_) ?_ ?_
      rotate_left
      ·show Act.put _ (some 65) _ = _
       simp only [Act.put, sA, sZ, sS, i64_w, i32_w]
       rfl
      exact norm_ (by simp only [putAll, Act.put, sA, sZ, sS] <;> rfl) (hJ5_6_14_15_24_25_29 (v212, v226, .slice Ao62 y234.length co62, v244) _ ⟨hHeld, HO198.out, HO202.out, HO205.out, HO210.out, HO213.out, HO219.out, HO224.out, HO227.out, HO233.out, HO236.out, HO245.out, HO_1.out, BK194.out, HB.out⟩)
     skip
     rintro ⟨v212, v226, v235⟩ w61 ⟨hS_, h0_, h1_, h2_, h3_, h4_, h5_, h6_, h7_, h8_, h9_, h10_, h11_, h12_⟩
     have n0_ : Aside0 (VN w61 w (fun k_ => (P1_ k_ ∨ w.heap.size ≤ k_) ∧ NB (.slice Ao24 y200.length co24) k_ ∧ NB v204 k_ ∧ NB v212 k_ ∧ NB v226 k_ ∧ NB v235 k_ ∧ k_ ≠ gb194) (.slice Ao19 y196.length co19) y196) := ⟨h0_⟩
     have n1_ : Aside0 (VN w61 w (fun k_ => (P1_ k_ ∨ w.heap.size ≤ k_) ∧ NB (.slice Ao19 y196.length co19) k_ ∧ NB v204 k_ ∧ NB v212 k_ ∧ NB v226 k_ ∧ NB v235 k_ ∧ k_ ≠ gb194) (.slice Ao24 y200.length co24) y200) := ⟨h1_⟩
     have n2_ : Aside0 (Kd.R (Kd.int .u8) 5 w61 w.heap.size (fun k_ => (w.heap.size ≤ k_)) v204 t203) := ⟨h2_⟩
     have n3_ : Aside0 (VV w61 w (fun k_ => (P1_ k_ ∨ w.heap.size ≤ k_) ∧ NB (.slice Ao19 y196.length co19) k_ ∧ NB (.slice Ao24 y200.length co24) k_ ∧ NB v204 k_ ∧ NB v212 k_ ∧ NB v226 k_ ∧ NB v235 k_ ∧ k_ ≠ gb194) (.slice A1 y206.length c1) y206) := ⟨h3_⟩
     have n4_ : Aside0 (VN w61 w (fun k_ => (P1_ k_ ∨ w.heap.size ≤ k_) ∧ NB (.slice Ao19 y196.length co19) k_ ∧ NB (.slice Ao24 y200.length co24) k_ ∧ NB v204 k_ ∧ NB v226 k_ ∧ NB v235 k_ ∧ k_ ≠ gb194) v212 y211) := ⟨h4_⟩
     have n5_ : Aside0 (VV w61 w (fun k_ => (P1_ k_ ∨ w.heap.size ≤ k_) ∧ NB (.slice Ao19 y196.length co19) k_ ∧ NB (.slice Ao24 y200.length co24) k_ ∧ NB v204 k_ ∧ NB v212 k_ ∧ NB v226 k_ ∧ NB v235 k_ ∧ k_ ≠ gb194) (.slice A46 y215.length c46) y215) := ⟨h5_⟩
     have n6_ : Aside0 (VV w61 w (fun k_ => (P1_ k_ ∨ w.heap.size ≤ k_) ∧ NB (.slice Ao19 y196.length co19) k_ ∧ NB (.slice Ao24 y200.length co24) k_ ∧ NB v204 k_ ∧ NB v212 k_ ∧ NB v226 k_ ∧ NB v235 k_ ∧ k_ ≠ gb194) (.slice A47 y220.length c47) y220) := ⟨h6_⟩
     have n7_ : Aside0 (VN w61 w (fun k_ => (P1_ k_ ∨ w.heap.size ≤ k_) ∧ NB (.slice Ao19 y196.length co19) k_ ∧ NB (.slice Ao24 y200.length co24) k_ ∧ NB v204 k_ ∧ NB v212 k_ ∧ NB v235 k_ ∧ k_ ≠ gb194) v226 y225) := ⟨h7_⟩
     have n8_ : Aside0 (VV w61 w (fun k_ => (P1_ k_ ∨ w.heap.size ≤ k_) ∧ NB (.slice Ao19 y196.length co19) k_ ∧ NB (.slice Ao24 y200.length co24) k_ ∧ NB v204 k_ ∧ NB v212 k_ ∧ NB v226 k_ ∧ NB v235 k_ ∧ k_ ≠ gb194) (.slice A1 y229.length c1) y229) := ⟨h8_⟩
     have n9_ : Aside0 (VN w61 w (fun k_ => (P1_ k_ ∨ w.heap.size ≤ k_) ∧ NB (.slice Ao19 y196.length co19) k_ ∧ NB (.slice Ao24 y200.length co24) k_ ∧ NB v204 k_ ∧ NB v212 k_ ∧ NB v226 k_ ∧ k_ ≠ gb194) v235 y234) := ⟨h9_⟩
     have n10_ : Aside0 (VV w61 w (fun k_ => (P1_ k_ ∨ w.heap.size ≤ k_) ∧ NB (.slice Ao19 y196.length co19) k_ ∧ NB (.slice Ao24 y200.length co24) k_ ∧ NB v204 k_ ∧ NB v212 k_ ∧ NB v226 k_ ∧ NB v235 k_ ∧ k_ ≠ gb194) (.slice A1 l1.length c1) l1) := ⟨h10_⟩
     have n11_ : Aside0 (w61.heap[gb194]? = some (.cells (tabC a0_0) 24 (0, 0))) := ⟨h11_⟩
     have n12_ : Aside0 (Below w.heap.size w w61) := ⟨h12_⟩
     clear HO_1
     clear HO198
     clear HO202
     clear HO205
     clear BK194
     clear HB
     clear h0_ h1_ h2_ h3_ h4_ h5_ h6_ h7_ h8_ h9_ h10_ h11_ h12_
     have HO198 := n0_
     have HO202 := n1_
     have HO205 := n2_
     have HO210 := n3_
     have HO213 := n4_
     have HO219 := n5_
     have HO224 := n6_
     have HO227 := n7_
     have HO233 := n8_
     have HO236 := n9_
     have HO_1 := n10_
     have BK194 := n11_
     have HB := n12_
     clear n0_ n1_ n2_ n3_ n4_ n5_ n6_ n7_ n8_ n9_ n10_ n11_ n12_
     have hHeld : w61.heap[gb194]? = some (.cells (tabC a0_0) 24 (0, 0)) := hS_
     refine norm_ (a' := ?_) ?_ ?_
     rotate_left
     ·simp only [putAll, Act.put, sA, sZ, sS]
      rfl
     refine one_ (i := 29) (N := some 69) tq21 rfl rfl (one_of HT_.out (by kernel_rfl)) (by decide) (fun K hK => ?_)
     refine lit1 (N' := 69) ?hd (ok := (fun k_ => (P1_ k_ ∨ w.heap.size ≤ k_) ∧ NB (.slice Ao19 y196.length co19) k_ ∧ NB (.slice Ao24 y200.length co24) k_ ∧ NB v204 k_ ∧ NB v212 k_ ∧ NB v226 k_ ∧ NB v235 k_ ∧ k_ ≠ gb194)) (Kd.V_mono (HO224.out) (fun k_ hk => ⟨hk.1, hk.2.1, hk.2.2.1, hk.2.2.2.1, hk.2.2.2.2.1, hk.2.2.2.2.2.1, hk.2.2.2.2.2.2.1, hk.2.2.2.2.2.2.2⟩)) (fun k_ hk => ⟨.inr (fW HB hk), fN HO198 hk, fN HO202 hk, Kd.fresh' (Kd.R_lt HO205.out) k_ hk, fN HO213 hk, fN HO227 hk, fN HO236 hk, fB BK194 hk⟩) ?hr HB.out ?_; (case hd => rfl); (case hr => first | (go_simp; done) | (go_simp; rfl))
     intro v244 w62 ho63 hb hg_ hnew_
     clear hg_ hnew_
     rw [← Ny243.out] at ho63
     have HO245 := nL ho63 HB
     replace HO_1 := vE HO_1 ho63 hb
     replace HO198 := nE HO198 ho63 hb
     replace HO202 := nE HO202 ho63 hb
     replace HO205 := rB HO205 hb
     replace HO210 := vE HO210 ho63 hb
     replace HO219 := vE HO219 ho63 hb
     replace HO224 := vE HO224 ho63 hb
     replace HO233 := vE HO233 ho63 hb
     replace HO213 := nE HO213 ho63 hb
     replace HO227 := nE HO227 ho63 hb
     replace HO236 := nE HO236 ho63 hb
     replace BK194 := bB BK194 hb
     replace HB := hB HB hb
     clear hb ho63
     refine hK.out _ _ (BK194.out) (fun hHeld => ?_)
     clear hK K
     refine norm_ (a' := ?_) ?_ ?_
     rotate_left
     ·show Act.put _ (some 69) _ = _
      simp only [Act.put, sA, sZ, sS, i64_w, i32_w]
      rfl
     exact norm_ (by simp only [putAll, Act.put, sA, sZ, sS] <;> rfl) (hJ5_6_14_15_24_25_29 (v212, v226, v235, v244) _ ⟨hHeld, (Kd.N_mono HO198.out (fun _ hk => ⟨hk.1.1, hk.1.2.1, hk.1.2.2.1, hk.1.2.2.2.1, hk.1.2.2.2.2.1, hk.1.2.2.2.2.2.1, hk.2, hk.1.2.2.2.2.2.2⟩)), (Kd.N_mono HO202.out (fun _ hk => ⟨hk.1.1, hk.1.2.1, hk.1.2.2.1, hk.1.2.2.2.1, hk.1.2.2.2.2.1, hk.1.2.2.2.2.2.1, hk.2, hk.1.2.2.2.2.2.2⟩)), HO205.out, (Kd.V_mono HO210.out (fun _ hk => ⟨hk.1.1, hk.1.2.1, hk.1.2.2.1, hk.1.2.2.2.1, hk.1.2.2.2.2.1, hk.1.2.2.2.2.2.1, hk.1.2.2.2.2.2.2.1, hk.2, hk.1.2.2.2.2.2.2.2⟩)), (Kd.N_mono HO213.out (fun _ hk => ⟨hk.1.1, hk.1.2.1, hk.1.2.2.1, hk.1.2.2.2.1, hk.1.2.2.2.2.1, hk.1.2.2.2.2.2.1, hk.2, hk.1.2.2.2.2.2.2⟩)), (Kd.V_mono HO219.out (fun _ hk => ⟨hk.1.1, hk.1.2.1, hk.1.2.2.1, hk.1.2.2.2.1, hk.1.2.2.2.2.1, hk.1.2.2.2.2.2.1, hk.1.2.2.2.2.2.2.1, hk.2, hk.1.2.2.2.2.2.2.2⟩)), (Kd.V_mono HO224.out (fun _ hk => ⟨hk.1.1, hk.1.2.1, hk.1.2.2.1, hk.1.2.2.2.1, hk.1.2.2.2.2.1, hk.1.2.2.2.2.2.1, hk.1.2.2.2.2.2.2.1, hk.2, hk.1.2.2.2.2.2.2.2⟩)), (Kd.N_mono HO227.out (fun _ hk => ⟨hk.1.1, hk.1.2.1, hk.1.2.2.1, hk.1.2.2.2.1, hk.1.2.2.2.2.1, hk.1.2.2.2.2.2.1, hk.2, hk.1.2.2.2.2.2.2⟩)), (Kd.V_mono HO233.out (fun _ hk => ⟨hk.1.1, hk.1.2.1, hk.1.2.2.1, hk.1.2.2.2.1, hk.1.2.2.2.2.1, hk.1.2.2.2.2.2.1, hk.1.2.2.2.2.2.2.1, hk.2, hk.1.2.2.2.2.2.2.2⟩)), (Kd.N_mono HO236.out (fun _ hk => ⟨hk.1.1, hk.1.2.1, hk.1.2.2.1, hk.1.2.2.2.1, hk.1.2.2.2.2.1, hk.1.2.2.2.2.2.1, hk.2, hk.1.2.2.2.2.2.2⟩)), HO245.out, (Kd.V_mono HO_1.out (fun _ hk => ⟨hk.1.1, hk.1.2.1, hk.1.2.2.1, hk.1.2.2.2.1, hk.1.2.2.2.2.1, hk.1.2.2.2.2.2.1, hk.1.2.2.2.2.2.2.1, hk.2, hk.1.2.2.2.2.2.2.2⟩)), BK194.out, HB.out⟩)
    rintro ⟨v212, v226, v235, v244⟩ w63 ⟨hS_, h0_, h1_, h2_, h3_, h4_, h5_, h6_, h7_, h8_, h9_, h10_, h11_, h12_, h13_⟩
    have n0_ : Aside0 (VN w63 w (fun k_ => (P1_ k_ ∨ w.heap.size ≤ k_) ∧ NB (.slice Ao24 y200.length co24) k_ ∧ NB v204 k_ ∧ NB v212 k_ ∧ NB v226 k_ ∧ NB v235 k_ ∧ NB v244 k_ ∧ k_ ≠ gb194) (.slice Ao19 y196.length co19) y196) := ⟨h0_⟩
    have n1_ : Aside0 (VN w63 w (fun k_ => (P1_ k_ ∨ w.heap.size ≤ k_) ∧ NB (.slice Ao19 y196.length co19) k_ ∧ NB v204 k_ ∧ NB v212 k_ ∧ NB v226 k_ ∧ NB v235 k_ ∧ NB v244 k_ ∧ k_ ≠ gb194) (.slice Ao24 y200.length co24) y200) := ⟨h1_⟩
    have n2_ : Aside0 (Kd.R (Kd.int .u8) 5 w63 w.heap.size (fun k_ => (w.heap.size ≤ k_)) v204 t203) := ⟨h2_⟩
    have n3_ : Aside0 (VV w63 w (fun k_ => (P1_ k_ ∨ w.heap.size ≤ k_) ∧ NB (.slice Ao19 y196.length co19) k_ ∧ NB (.slice Ao24 y200.length co24) k_ ∧ NB v204 k_ ∧ NB v212 k_ ∧ NB v226 k_ ∧ NB v235 k_ ∧ NB v244 k_ ∧ k_ ≠ gb194) (.slice A1 y206.length c1) y206) := ⟨h3_⟩
    have n4_ : Aside0 (VN w63 w (fun k_ => (P1_ k_ ∨ w.heap.size ≤ k_) ∧ NB (.slice Ao19 y196.length co19) k_ ∧ NB (.slice Ao24 y200.length co24) k_ ∧ NB v204 k_ ∧ NB v226 k_ ∧ NB v235 k_ ∧ NB v244 k_ ∧ k_ ≠ gb194) v212 y211) := ⟨h4_⟩
    have n5_ : Aside0 (VV w63 w (fun k_ => (P1_ k_ ∨ w.heap.size ≤ k_) ∧ NB (.slice Ao19 y196.length co19) k_ ∧ NB (.slice Ao24 y200.length co24) k_ ∧ NB v204 k_ ∧ NB v212 k_ ∧ NB v226 k_ ∧ NB v235 k_ ∧ NB v244 k_ ∧ k_ ≠ gb194) (.slice A46 y215.length c46) y215) := ⟨h5_⟩
    have n6_ : Aside0 (VV w63 w (fun k_ => (P1_ k_ ∨ w.heap.size ≤ k_) ∧ NB (.slice Ao19 y196.length co19) k_ ∧ NB (.slice Ao24 y200.length co24) k_ ∧ NB v204 k_ ∧ NB v212 k_ ∧ NB v226 k_ ∧ NB v235 k_ ∧ NB v244 k_ ∧ k_ ≠ gb194) (.slice A47 y220.length c47) y220) := ⟨h6_⟩
    have n7_ : Aside0 (VN w63 w (fun k_ => (P1_ k_ ∨ w.heap.size ≤ k_) ∧ NB (.slice Ao19 y196.length co19) k_ ∧ NB (.slice Ao24 y200.length co24) k_ ∧ NB v204 k_ ∧ NB v212 k_ ∧ NB v235 k_ ∧ NB v244 k_ ∧ k_ ≠ gb194) v226 y225) := ⟨h7_⟩
    have n8_ : Aside0 (VV w63 w (fun k_ => (P1_ k_ ∨ w.heap.size ≤ k_) ∧ NB (.slice Ao19 y196.length co19) k_ ∧ NB (.slice Ao24 y200.length co24) k_ ∧ NB v204 k_ ∧ NB v212 k_ ∧ NB v226 k_ ∧ NB v235 k_ ∧ NB v244 k_ ∧ k_ ≠ gb194) (.slice A1 y229.length c1) y229) := ⟨h8_⟩
    have n9_ : Aside0 (VN w63 w (fun k_ => (P1_ k_ ∨ w.heap.size ≤ k_) ∧ NB (.slice Ao19 y196.length co19) k_ ∧ NB (.slice Ao24 y200.length co24) k_ ∧ NB v204 k_ ∧ NB v212 k_ ∧ NB v226 k_ ∧ NB v244 k_ ∧ k_ ≠ gb194) v235 y234) := ⟨h9_⟩
    have n10_ : Aside0 (VN w63 w (fun k_ => (P1_ k_ ∨ w.heap.size ≤ k_) ∧ NB (.slice Ao19 y196.length co19) k_ ∧ NB (.slice Ao24 y200.length co24) k_ ∧ NB v204 k_ ∧ NB v212 k_ ∧ NB v226 k_ ∧ NB v235 k_ ∧ k_ ≠ gb194) v244 y243) := ⟨h10_⟩
    have n11_ : Aside0 (VV w63 w (fun k_ => (P1_ k_ ∨ w.heap.size ≤ k_) ∧ NB (.slice Ao19 y196.length co19) k_ ∧ NB (.slice Ao24 y200.length co24) k_ ∧ NB v204 k_ ∧ NB v212 k_ ∧ NB v226 k_ ∧ NB v235 k_ ∧ NB v244 k_ ∧ k_ ≠ gb194) (.slice A1 l1.length c1) l1) := ⟨h11_⟩
    have n12_ : Aside0 (w63.heap[gb194]? = some (.cells (tabC a0_0) 24 (0, 0))) := ⟨h12_⟩
    have n13_ : Aside0 (Below w.heap.size w w63) := ⟨h13_⟩
    clear HO_1
    clear HO198
    clear HO202
    clear HO205
    clear BK194
    clear HB
    clear h0_ h1_ h2_ h3_ h4_ h5_ h6_ h7_ h8_ h9_ h10_ h11_ h12_ h13_
    have HO198 := n0_
    have HO202 := n1_
    have HO205 := n2_
    have HO210 := n3_
    have HO213 := n4_
    have HO219 := n5_
    have HO224 := n6_
    have HO227 := n7_
    have HO233 := n8_
    have HO236 := n9_
    have HO245 := n10_
    have HO_1 := n11_
    have BK194 := n12_
    have HB := n13_
    clear n0_ n1_ n2_ n3_ n4_ n5_ n6_ n7_ n8_ n9_ n10_ n11_ n12_ n13_
    have hHeld : w63.heap[gb194]? = some (.cells (tabC a0_0) 24 (0, 0)) := hS_
    obtain ⟨Ao64, co64, eo64⟩ := Kd.N_slice HO245.out
    (first | subst eo64 | (injection eo64 with f1_ f2_ f3_; have f4_ := f1_.symm; have f5_ := f3_.symm; clear f1_ f2_ f3_; subst f4_; subst f5_))
    refine norm_ (a' := ?_) ?_ ?_
    rotate_left
    ·simp only [putAll, Act.put, sA, sZ, sS]
     rfl
    refine one_ (i := 30) (N := some 70) tq20 rfl rfl (one_of HT_.out (by kernel_rfl)) (by decide) (fun K hK => ?_)
    refine goes_ Try.func17 (by kernel_rfl) rfl #[.agg (tabC a0_0), .int .u32 t237, .slice Ao64 y243.length co64] (by rfl) rfl rfl (by (try simp only [List.map_toArray, List.map_cons, List.map_nil]); first | done | rfl | (simp only [List.length_drop, List.length_take]; rfl)) ?_
    with_reducible refine (crc_More.calls kj5 a0_0 t237 _ _ y243 t246 _ ?side1 ?side2 A41.out).mono ?_
    (case side1 => repeat (first | exact (Kd.N_reads' HO245.out).2.2 | (with_reducible refine Kd.C_alloc ?_ _) | (with_reducible refine Kd.C_drewN ?_ _) | (with_reducible refine Kd.C_drew ?_)))
    (case side2 => exact (Kd.N_reads' HO245.out).2.1)
    rintro e w65 ⟨rfl, hb⟩
    refine ⟨_, rfl, ?_⟩
    replace HO_1 := vB HO_1 hb
    replace HO198 := nB HO198 hb
    replace HO202 := nB HO202 hb
    replace HO205 := rB HO205 hb
    replace HO210 := vB HO210 hb
    replace HO219 := vB HO219 hb
    replace HO224 := vB HO224 hb
    replace HO233 := vB HO233 hb
    replace HO213 := nB HO213 hb
    replace HO227 := nB HO227 hb
    replace HO236 := nB HO236 hb
    replace HO245 := nB HO245 hb
    replace BK194 := bB BK194 hb
    replace HB := hB HB hb
    (try clear hb)
    (try clear hb2)
    (try clear hk)
    (try clear hi)
    refine hK.out _ _ (BK194.out) (fun hHeld => ?_)
    clear hK K
    refine norm_ (a' := ?_) ?_ ?_
    rotate_left
    ·show Act.put _ (some 70) _ = _
     simp only [Act.put, sA, sZ, sS, i64_w, i32_w]
     rfl
    refine pure_ (i := 32) (N := some 72) (v := ?_) (a' := ?_) tq18 rfl rfl (any_of HT_.out (by kernel_rfl)) (fun _ _ _ h => h) (Or.inl ⟨by rfl, ?_⟩) ?_ ?_
    rotate_left
    ·intro w'
     go_simp
     with_reducible rfl
    rotate_left
    ·simp only [Act.put, sA, sZ, sS, i64_w, i32_w]
     rfl
    refine pure_ (i := 33) (N := some 73) (v := ?_) (a' := ?_) tq16 rfl rfl (any_of HT_.out (by kernel_rfl)) (fun _ _ _ h => h) (Or.inl ⟨by rfl, ?_⟩) ?_ ?_
    rotate_left
    ·intro w'
     go_simp
     with_reducible rfl
    rotate_left
    ·simp only [Act.put, sA, sZ, sS, i64_w, i32_w]
     rfl
    refine pure_ (i := 34) (N := some 74) (v := ?_) (a' := ?_) tq14 rfl rfl (any_of HT_.out (by kernel_rfl)) (fun _ _ _ h => h) (Or.inl ⟨by rfl, ?_⟩) ?_ ?_
    rotate_left
    ·intro w'
     go_simp
     with_reducible rfl
    rotate_left
    ·simp only [Act.put, sA, sZ, sS, i64_w, i32_w]
     rfl
    refine pure_ (i := 36) (N := some 76) (v := ?_) (a' := ?_) tq12 rfl rfl (any_of HT_.out (by kernel_rfl)) (fun _ _ _ h => h) (Or.inl ⟨by rfl, ?_⟩) ?_ ?_
    rotate_left
    ·intro w'
     go_simp
     with_reducible rfl
    rotate_left
    ·simp only [Act.put, sA, sZ, sS, i64_w, i32_w]
     rfl
    refine pure_ (i := 38) (N := some 78) (v := ?_) (a' := ?_) tq9 rfl rfl (any_of HT_.out (by kernel_rfl)) (fun _ _ _ h => h) (Or.inl ⟨by rfl, ?_⟩) ?_ ?_
    rotate_left
    ·intro w'
     go_simp
     with_reducible rfl
    rotate_left
    ·simp only [Act.put, sA, sZ, sS, i64_w, i32_w]
     rfl
    refine take_ (i := 35) (N := some 75) (v := ?_) (a' := ?_) tq8 rfl rfl (take_ofW HT_.out HW_.out (by kernel_rfl)) (fun _ _ _ h => h) (Or.inl ⟨by rfl, ?_⟩) hHeld ?_ ?_
    rotate_left
    ·intro w' s0
     (first | (rw [tab_load_run (x := .tmp 4) rfl rfl (by assumption)]) | (go_simp; with_reducible rfl))
    rotate_left
    ·simp only [Act.put, sA, sZ, sS, i64_w, i32_w]
     rfl
    refine one_ (i := 37) (N := some 77) tq6 rfl rfl (one_of HT_.out (by kernel_rfl)) (by decide) (fun K hK => ?_)
    refine goes_ Try.func17 (by kernel_rfl) rfl #[.agg (tabC a0_0), .int .u32 t199, .slice none 0 0] (by rfl) rfl rfl (by (try simp only [List.map_toArray, List.map_cons, List.map_nil]); first | done | rfl | (simp only [List.length_drop, List.length_take]; rfl)) ?_
    refine (crc_More.calls kj5 a0_0 t199 _ _ ([] : List (List Int)) t247 _ ?side1 ?side2 A43.out).mono ?_
    (case side1 => exact Kd.C_nil _ _)
    (case side2 => exact Nat.le_refl _)
    rintro e w66 ⟨rfl, hb⟩
    refine ⟨_, rfl, ?_⟩
    replace HO_1 := vB HO_1 hb
    replace HO198 := nB HO198 hb
    replace HO202 := nB HO202 hb
    replace HO205 := rB HO205 hb
    replace HO210 := vB HO210 hb
    replace HO219 := vB HO219 hb
    replace HO224 := vB HO224 hb
    replace HO233 := vB HO233 hb
    replace HO213 := nB HO213 hb
    replace HO227 := nB HO227 hb
    replace HO236 := nB HO236 hb
    replace HO245 := nB HO245 hb
    replace BK194 := bB BK194 hb
    replace HB := hB HB hb
    (try clear hb)
    (try clear hb2)
    (try clear hk)
    (try clear hi)
    refine hK.out _ _ (BK194.out) (fun hHeld => ?_)
    clear hK K
    refine norm_ (a' := ?_) ?_ ?_
    rotate_left
    ·show Act.put _ (some 77) _ = _
     simp only [Act.put, sA, sZ, sS, i64_w, i32_w]
     rfl
    refine pure_ (i := 39) (N := some 79) (v := ?_) (a' := ?_) tq4 rfl rfl (any_of HT_.out (by kernel_rfl)) (fun _ _ _ h => h) (Or.inl ⟨by rfl, ?_⟩) ?_ ?_
    rotate_left
    ·intro w'
     go_simp
     with_reducible rfl
    rotate_left
    ·simp only [Act.put, sA, sZ, sS, i64_w, i32_w]
     rfl
    refine pure_ (i := 40) (N := some 80) (v := ?_) (a' := ?_) tq2 rfl rfl (any_of HT_.out (by kernel_rfl)) (fun _ _ _ h => h) (Or.inl ⟨by rfl, ?_⟩) ?_ ?_
    rotate_left
    ·intro w'
     go_simp
     with_reducible rfl
    rotate_left
    ·simp only [Act.put, sA, sZ, sS, i64_w, i32_w]
     rfl
    refine done_ (done_of HT_.out (by kernel_rfl)) ?_
    try go_wp2_with (first | ((with_reducible refine gate_load24 (x := .tmp _) rfl ?_); (try (refine gate_guard (by rfl) ?_; dsimp only)); refine tab_load rfl rfl rfl (Aside0.out (by assumption)) ?_) | ((with_reducible refine gate_load22 (x := .tmp _) rfl ?_); (try (refine gate_guard (by rfl) ?_; dsimp only)); refine tab_elem _ rfl rfl rfl (Aside0.out (by assumption)) (of_decide_eq_true (by first | (with_reducible assumption) | assumption)) (of_decide_eq_true (by first | (with_reducible assumption) | assumption)) ?_))
    go_meet
    case rel => exact ⟨_, ((t247 != t199)), (by first | rfl | (simp; done) | (simp [*]; done)), H', ⟨by have := HJ5.out; first | omega | exact Nat.le_refl _⟩, ⟨by (with_reducible repeat (first | apply Kd.V_alloc | apply Kd.V_drewN | apply Kd.V_drew)); exact Kd.V_mono HO_1.out (fun _ hk => ⟨hk.1, hk.2.2.2.1, hk.2.2.2.2.2.2.2.2⟩)⟩, ⟨by (with_reducible repeat (first | apply Kd.R_alloc | apply Kd.R_drewN | apply Kd.R_drew)); exact HO205.out⟩, ⟨by (with_reducible repeat (first | refine blk_drewN ?_ _ | refine blk_drew ?_ | refine blk_alloc ?_ _)); exact BK194.out⟩, ⟨by repeat (first | (with_reducible first | exact HB.out | apply below_alloc | apply pw_below_drewN | apply below_drew1 | refine below_set ?_ GE194.out) | exact HB.out)⟩⟩
   case rest =>
    clear HC15
    try clear c1
    try clear c2
    try clear p2
    try clear c3
    try clear c4
    try clear c17
    try clear c26
    try clear c27
    try clear c30
    try clear c31
    try clear c32
    try clear c35
    try clear c42
    try clear c46
    try clear c47
    obtain ⟨kq, x80_14, rfl, HA, HJ14, HO_1, HO_11, BK194, HB⟩ := hcut
    cases kq with
    | zero => exact absurd HA.out (by simp [decklelaw02_CrcParts.j1])
    | succ kj14 =>
     have H := HA.out
     clear HA
     simp only [decklelaw02_CrcParts.j1] at H
     by_cases c67 : x80_14 = true
     ·subst c67
      have H1 : (none) = some r := by rw [if_pos rfl] at H; exact H
      clear H
      have H := H1
      clear H1
      exact absurd H (by simp)
     replace c67 := Bool.eq_false_iff.mpr c67
     subst c67
     have H1 : (if t195 = true then (if 0 ≤ a2 then (if a2 ≤ (l1.length : Int) then ((some (l1.take (a2 : Int).toNat : List Int)).bind fun y248 => (if a2 ≤ a3 then (if a3 ≤ (l1.length : Int) then (if 0 ≤ a3 then ((crc_Sum.f kj14 a0_0 (([y248, ((l1.take (a3 : Int).toNat).drop (a2 : Int).toNat), [], (l1.drop (a3 : Int).toNat)] : List (List Int)))).bind fun t266 => (if t266 = t199 then ((crc_Seal.f kj14 a0_0 (([y248, [], (l1.drop (a2 : Int).toNat)] : List (List Int)))).bind fun t280 => (if (strOfNums t280).toList = (strOfNums t203).toList then ((crc_Sum.f kj14 a0_0 (([[], l1] : List (List Int)))).bind fun t286 => (some (t286 == t199))) else (none))) else (none))) else (none)) else (none)) else (none))) else (none)) else (none)) else (none)) = some r := by rw [if_neg (show ¬ (false = true) by decide)] at H; exact H
     clear H
     have H := H1
     clear H1
     by_cases c68 : t195 = true
     rotate_left
     ·replace c68 := Bool.eq_false_iff.mpr c68
      subst c68
      have H1 : (none) = some r := by rw [if_neg (show ¬ (false = true) by decide)] at H; exact H
      clear H
      have H := H1
      clear H1
      exact absurd H (by simp)
     subst c68
     have H1 : (if 0 ≤ a2 then (if a2 ≤ (l1.length : Int) then ((some (l1.take (a2 : Int).toNat : List Int)).bind fun y248 => (if a2 ≤ a3 then (if a3 ≤ (l1.length : Int) then (if 0 ≤ a3 then ((crc_Sum.f kj14 a0_0 (([y248, ((l1.take (a3 : Int).toNat).drop (a2 : Int).toNat), [], (l1.drop (a3 : Int).toNat)] : List (List Int)))).bind fun t266 => (if t266 = t199 then ((crc_Seal.f kj14 a0_0 (([y248, [], (l1.drop (a2 : Int).toNat)] : List (List Int)))).bind fun t280 => (if (strOfNums t280).toList = (strOfNums t203).toList then ((crc_Sum.f kj14 a0_0 (([[], l1] : List (List Int)))).bind fun t286 => (some (t286 == t199))) else (none))) else (none))) else (none)) else (none)) else (none))) else (none)) else (none)) = some r := by rw [if_pos rfl] at H; exact H
     clear H
     have H := H1
     clear H1
     by_cases c69 : 0 ≤ a2
     rotate_left
     ·rw [if_neg c69] at H
      exact absurd H (by simp)
     rw [if_pos c69] at H
     have c69b0 := eq_true c69
     have c69b1 : decide (0 ≤ a2) = true := decide_eq_true c69
     clear c69
     by_cases c70 : a2 ≤ (l1.length : Int)
     rotate_left
     ·rw [if_neg c70] at H
      exact absurd H (by simp)
     rw [if_pos c70] at H
     have c70b0 := eq_true c70
     have c70b1 : decide (a2 ≤ (l1.length : Int)) = true := decide_eq_true c70
     clear c70
     obtain ⟨y248, hy248⟩ : ∃ y_ : List Int, y_ = (l1.take (a2 : Int).toNat) := ⟨_, rfl⟩
     replace H : (if a2 ≤ a3 then (if a3 ≤ (l1.length : Int) then (if 0 ≤ a3 then ((crc_Sum.f kj14 a0_0 (([y248, ((l1.take (a3 : Int).toNat).drop (a2 : Int).toNat), [], (l1.drop (a3 : Int).toNat)] : List (List Int)))).bind fun t266 => (if t266 = t199 then ((crc_Seal.f kj14 a0_0 (([y248, [], (l1.drop (a2 : Int).toNat)] : List (List Int)))).bind fun t280 => (if (strOfNums t280).toList = (strOfNums t203).toList then ((crc_Sum.f kj14 a0_0 (([[], l1] : List (List Int)))).bind fun t286 => (some (t286 == t199))) else (none))) else (none))) else (none)) else (none)) else (none)) = some r := by first | (rw [hy248]; with_reducible exact H) | (have H2_ := (Option.bind_some _ _).symm.trans H; rw [hy248]; with_reducible exact H2_) | (have H2_ := (Option.bind_some _ _).symm.trans H; with_reducible exact H2_) | with_reducible exact H | (rw [hy248]; exact H) | exact H
     have Ny248 := Aside0.mk hy248
     clear hy248
     have c71b0 := eq_true (of_decide_eq_true (by first | (with_reducible assumption) | assumption) : 0 ≤ a2)
     by_cases c72 : a2 ≤ a3
     rotate_left
     ·rw [if_neg c72] at H
      exact absurd H (by simp)
     rw [if_pos c72] at H
     have c72b0 := eq_true c72
     have c72b1 : decide (a2 ≤ a3) = true := decide_eq_true c72
     clear c72
     by_cases c73 : a3 ≤ (l1.length : Int)
     rotate_left
     ·rw [if_neg c73] at H
      exact absurd H (by simp)
     rw [if_pos c73] at H
     have c73b0 := eq_true c73
     have c73b1 : decide (a3 ≤ (l1.length : Int)) = true := decide_eq_true c73
     clear c73
     obtain ⟨y253, hy253⟩ : ∃ y_ : List Int, y_ = ((l1.take (a3 : Int).toNat).drop (a2 : Int).toNat) := ⟨_, rfl⟩
     replace H : (if 0 ≤ a3 then ((crc_Sum.f kj14 a0_0 (([y248, y253, [], (l1.drop (a3 : Int).toNat)] : List (List Int)))).bind fun t266 => (if t266 = t199 then ((crc_Seal.f kj14 a0_0 (([y248, [], (l1.drop (a2 : Int).toNat)] : List (List Int)))).bind fun t280 => (if (strOfNums t280).toList = (strOfNums t203).toList then ((crc_Sum.f kj14 a0_0 (([[], l1] : List (List Int)))).bind fun t286 => (some (t286 == t199))) else (none))) else (none))) else (none)) = some r := by first | (rw [hy253]; with_reducible exact H) | (have H2_ := (Option.bind_some _ _).symm.trans H; rw [hy253]; with_reducible exact H2_) | (have H2_ := (Option.bind_some _ _).symm.trans H; with_reducible exact H2_) | with_reducible exact H | (rw [hy253]; exact H) | exact H
     have Ny253 := Aside0.mk hy253
     clear hy253
     by_cases c74 : 0 ≤ a3
     rotate_left
     ·rw [if_neg c74] at H
      exact absurd H (by simp)
     rw [if_pos c74] at H
     have c74b0 := eq_true c74
     have c74b1 : decide (0 ≤ a3) = true := decide_eq_true c74
     clear c74
     have c75b0 := eq_true (of_decide_eq_true (by first | (with_reducible assumption) | assumption) : a3 ≤ (l1.length : Int))
     obtain ⟨y258, hy258⟩ : ∃ y_ : List Int, y_ = (l1.drop (a3 : Int).toNat) := ⟨_, rfl⟩
     replace H : ((crc_Sum.f kj14 a0_0 (([y248, y253, [], y258] : List (List Int)))).bind fun t266 => (if t266 = t199 then ((crc_Seal.f kj14 a0_0 (([y248, [], (l1.drop (a2 : Int).toNat)] : List (List Int)))).bind fun t280 => (if (strOfNums t280).toList = (strOfNums t203).toList then ((crc_Sum.f kj14 a0_0 (([[], l1] : List (List Int)))).bind fun t286 => (some (t286 == t199))) else (none))) else (none))) = some r := by first | (rw [hy258]; with_reducible exact H) | (have H2_ := (Option.bind_some _ _).symm.trans H; rw [hy258]; with_reducible exact H2_) | (have H2_ := (Option.bind_some _ _).symm.trans H; with_reducible exact H2_) | with_reducible exact H | (rw [hy258]; exact H) | exact H
     have Ny258 := Aside0.mk hy258
     clear hy258
     obtain ⟨y263, hy263⟩ : ∃ y_ : List (List Int), y_ = (([y248, y253, [], y258] : List (List Int))) := ⟨_, rfl⟩
     replace H : ((crc_Sum.f kj14 a0_0 y263).bind fun t266 => (if t266 = t199 then ((crc_Seal.f kj14 a0_0 (([y248, [], (l1.drop (a2 : Int).toNat)] : List (List Int)))).bind fun t280 => (if (strOfNums t280).toList = (strOfNums t203).toList then ((crc_Sum.f kj14 a0_0 (([[], l1] : List (List Int)))).bind fun t286 => (some (t286 == t199))) else (none))) else (none))) = some r := by first | (rw [hy263]; with_reducible exact H) | (have H2_ := (Option.bind_some _ _).symm.trans H; rw [hy263]; with_reducible exact H2_) | (have H2_ := (Option.bind_some _ _).symm.trans H; with_reducible exact H2_) | with_reducible exact H | (rw [hy263]; exact H) | exact H
     have Ny263 := Aside0.mk hy263
     clear hy263
     replace H := Option.bind_eq_some_iff.mp H
     obtain ⟨t266, A760, H⟩ := H
     replace H : (if t266 = t199 then ((crc_Seal.f kj14 a0_0 (([y248, [], (l1.drop (a2 : Int).toNat)] : List (List Int)))).bind fun t280 => (if (strOfNums t280).toList = (strOfNums t203).toList then ((crc_Sum.f kj14 a0_0 (([[], l1] : List (List Int)))).bind fun t286 => (some (t286 == t199))) else (none))) else (none)) = some r := H
     have A76 := Aside0.mk A760
     clear A760
     by_cases c77 : t266 = t199
     rotate_left
     ·rw [if_neg c77] at H
      exact absurd H (by simp)
     rw [if_pos c77] at H
     have c77b0 : (t266 == t199) = true := beq_iff_eq.mpr c77
     have c77b1 : (t266 != t199) = false := bne_eq_false_iff_eq.mpr c77
     clear c77
     have c78b0 := eq_true (of_decide_eq_true (by first | (with_reducible assumption) | assumption) : 0 ≤ a2)
     have c79b0 := eq_true (of_decide_eq_true (by first | (with_reducible assumption) | assumption) : a2 ≤ (l1.length : Int))
     have c80b0 := eq_true (of_decide_eq_true (by first | (with_reducible assumption) | assumption) : 0 ≤ a2)
     have c81b0 := eq_true (of_decide_eq_true (by first | (with_reducible assumption) | assumption) : a2 ≤ (l1.length : Int))
     obtain ⟨y272, hy272⟩ : ∃ y_ : List Int, y_ = (l1.drop (a2 : Int).toNat) := ⟨_, rfl⟩
     replace H : ((crc_Seal.f kj14 a0_0 (([y248, [], y272] : List (List Int)))).bind fun t280 => (if (strOfNums t280).toList = (strOfNums t203).toList then ((crc_Sum.f kj14 a0_0 (([[], l1] : List (List Int)))).bind fun t286 => (some (t286 == t199))) else (none))) = some r := by first | (rw [hy272]; with_reducible exact H) | (have H2_ := (Option.bind_some _ _).symm.trans H; rw [hy272]; with_reducible exact H2_) | (have H2_ := (Option.bind_some _ _).symm.trans H; with_reducible exact H2_) | with_reducible exact H | (rw [hy272]; exact H) | exact H
     have Ny272 := Aside0.mk hy272
     clear hy272
     obtain ⟨y277, hy277⟩ : ∃ y_ : List (List Int), y_ = (([y248, [], y272] : List (List Int))) := ⟨_, rfl⟩
     replace H : ((crc_Seal.f kj14 a0_0 y277).bind fun t280 => (if (strOfNums t280).toList = (strOfNums t203).toList then ((crc_Sum.f kj14 a0_0 (([[], l1] : List (List Int)))).bind fun t286 => (some (t286 == t199))) else (none))) = some r := by first | (rw [hy277]; with_reducible exact H) | (have H2_ := (Option.bind_some _ _).symm.trans H; rw [hy277]; with_reducible exact H2_) | (have H2_ := (Option.bind_some _ _).symm.trans H; with_reducible exact H2_) | with_reducible exact H | (rw [hy277]; exact H) | exact H
     have Ny277 := Aside0.mk hy277
     clear hy277
     replace H := Option.bind_eq_some_iff.mp H
     obtain ⟨t280, A820, H⟩ := H
     replace H : (if (strOfNums t280).toList = (strOfNums t203).toList then ((crc_Sum.f kj14 a0_0 (([[], l1] : List (List Int)))).bind fun t286 => (some (t286 == t199))) else (none)) = some r := H
     have A82 := Aside0.mk A820
     clear A820
     by_cases c83 : (strOfNums t280).toList = (strOfNums t203).toList
     rotate_left
     ·rw [if_neg c83] at H
      exact absurd H (by simp)
     rw [if_pos c83] at H
     have c83b0 : ((strOfNums t280).toList == (strOfNums t203).toList) = true := beq_iff_eq.mpr c83
     have c83b1 : ((strOfNums t280).toList != (strOfNums t203).toList) = false := bne_eq_false_iff_eq.mpr c83
     clear c83
     obtain ⟨y283, hy283⟩ : ∃ y_ : List (List Int), y_ = (([[], l1] : List (List Int))) := ⟨_, rfl⟩
     replace H : ((crc_Sum.f kj14 a0_0 y283).bind fun t286 => (some (t286 == t199))) = some r := by first | (rw [hy283]; with_reducible exact H) | (have H2_ := (Option.bind_some _ _).symm.trans H; rw [hy283]; with_reducible exact H2_) | (have H2_ := (Option.bind_some _ _).symm.trans H; with_reducible exact H2_) | with_reducible exact H | (rw [hy283]; exact H) | exact H
     have Ny283 := Aside0.mk hy283
     clear hy283
     replace H := Option.bind_eq_some_iff.mp H
     obtain ⟨t286, A840, H⟩ := H
     replace H : (some (t286 == t199)) = some r := H
     have A84 := Aside0.mk A840
     clear A840
     obtain rfl := Option.some.inj H
     try go_wp2_with (first | ((with_reducible refine gate_load24 (x := .tmp _) rfl ?_); (try (refine gate_guard (by rfl) ?_; dsimp only)); refine tab_load rfl rfl rfl (Aside0.out (by assumption)) ?_) | ((with_reducible refine gate_load22 (x := .tmp _) rfl ?_); (try (refine gate_guard (by rfl) ?_; dsimp only)); refine tab_elem _ rfl rfl rfl (Aside0.out (by assumption)) (of_decide_eq_true (by first | (with_reducible assumption) | assumption)) (of_decide_eq_true (by first | (with_reducible assumption) | assumption)) ?_))
     replace HO_1 := Aside0.mk (Kd.V_drew HO_1.out)
     replace HO_11 := Aside0.mk (Kd.R_drew HO_11.out)
     replace BK194 := Aside0.mk (blk_drew BK194.out)
     replace HB := Aside0.mk (below_drew1 HB.out)
     have q86 : (a2 : Int) ≤ ((l1.length : Int) : Int) := of_decide_eq_true (by first | (with_reducible assumption) | assumption)
     obtain ⟨i086, hi086, _, hsz86, _⟩ := info_parts info5
     have hroom86 : l1.length ≤ c1 := (Kd.V_reads' HO_1.out).2.1
     have hC86 : Kd.F (Kd.int .u8) _ _ A1 l1.length l1 := (Kd.V_at (base := w.heap.size) HO_1.out).2.2
     have hcut86 := cut_to (P := Try.prog) 28 5 .i64 Try.underlying28 hi086 A1 l1.length c1 a2 (of_decide_eq_true (by first | (with_reducible assumption) | assumption)) q86 hroom86
     have hr86 := Kd.F_take (m := (a2 : Int).toNat) hC86 (by omega)
     have hy86 : y248.length = (a2 : Int).toNat := (by rw [Ny248.out, List.length_take]; omega)
     rw [← Ny248.out] at hr86
     rw [← hy86] at hcut86
     have HO252 := Aside0.mk (show Kd.V (Kd.int .u8) 5 _ w.heap.size _ (.slice A1 y248.length c1) y248 from Kd.V_mk (by omega) hr86)
     have HC252 := Aside0.mk (show y248.length ≤ c1 from by omega)
     clear hr86 hC86 hroom86 hi086 hsz86
     have KY86 := Aside0.mk hy86
     clear hy86
     replace q86 := eq_true q86
     have q87 : (a3 : Int) ≤ ((l1.length : Int) : Int) := of_decide_eq_true (by first | (with_reducible assumption) | assumption)
     obtain ⟨i087, hi087, _, hsz87, _⟩ := info_parts info5
     have hroom87 : l1.length ≤ c1 := (Kd.V_reads' HO_1.out).2.1
     have hC87 : Kd.F (Kd.int .u8) _ _ A1 l1.length l1 := (Kd.V_at (base := w.heap.size) HO_1.out).2.2
     have ql87 : (a2 : Int) ≤ (a3 : Int) := of_decide_eq_true (by first | (with_reducible assumption) | assumption)
     have q087 : (0 : Int) ≤ (a2 : Int) := of_decide_eq_true (by first | (with_reducible assumption) | assumption)
     have hcut87 := cut_mid (P := Try.prog) 28 5 .i64 .i64 Try.underlying28 hi087 1 hsz87 A1 l1.length c1 a2 a3 q087 ql87 q87 hroom87
     have hr87 := Kd.F_mid (lo := (a2 : Int).toNat) (hi := (a3 : Int).toNat) (c := c1) hC87 (by omega) (by omega) hroom87
     obtain ⟨A87, hA87⟩ : ∃ A_, A_ = (if c1 = (a2 : Int).toNat then A1 else (A1 : Option Addr).map (·.add ((a2 : Int).toNat * 1))) := ⟨_, rfl⟩
     obtain ⟨c87, hc87⟩ : ∃ c_, c_ = c1 - (a2 : Int).toNat := ⟨_, rfl⟩
     have hy87 : y253.length = (a3 : Int).toNat - (a2 : Int).toNat := (by rw [Ny253.out, List.length_drop, List.length_take] <;> omega)
     rw [show ((l1).take (a3 : Int).toNat).drop (a2 : Int).toNat = y253 from Ny253.out.symm] at hr87
     replace hr87 : Kd.F (Kd.int .u8) _ _ A87 y253.length y253 := (by rw [hA87]; exact hr87)
     rw [← hy87, ← hA87, ← hc87] at hcut87
     have HO257 := Aside0.mk (show Kd.V (Kd.int .u8) 5 _ w.heap.size _ (.slice A87 y253.length c87) y253 from Kd.V_mk (by rw [hy87, hc87]; exact Nat.sub_le_sub_right (Nat.le_trans (by omega) hroom87) _) hr87)
     have HC257 := Aside0.mk (show y253.length ≤ c87 from by rw [hy87, hc87]; exact Nat.sub_le_sub_right (Nat.le_trans (by omega) hroom87) _)
     clear hr87 hC87 hroom87 hi087 hsz87 hc87
     have KY87 := Aside0.mk hy87
     have KA87 := Aside0.mk hA87
     clear hy87 hA87
     replace q87 := eq_true q87
     have q88 : (a3 : Int) ≤ ((l1.length : Int) : Int) := of_decide_eq_true (by first | (with_reducible assumption) | assumption)
     obtain ⟨i088, hi088, _, hsz88, _⟩ := info_parts info5
     have hroom88 : l1.length ≤ c1 := (Kd.V_reads' HO_1.out).2.1
     have hC88 : Kd.F (Kd.int .u8) _ _ A1 l1.length l1 := (Kd.V_at (base := w.heap.size) HO_1.out).2.2
     have q088 : (0 : Int) ≤ (a3 : Int) := of_decide_eq_true (by first | (with_reducible assumption) | assumption)
     have hcut88 := cut_from (P := Try.prog) 28 5 .i64 Try.underlying28 hi088 1 hsz88 A1 l1.length c1 a3 q088 q88
     have hr88 := Kd.F_cut (m := (a3 : Int).toNat) (c := c1) hC88 (by omega) hroom88
     obtain ⟨A88, hA88⟩ : ∃ A_, A_ = (if c1 = (a3 : Int).toNat then A1 else (A1 : Option Addr).map (·.add ((a3 : Int).toNat * 1))) := ⟨_, rfl⟩
     obtain ⟨c88, hc88⟩ : ∃ c_, c_ = c1 - (a3 : Int).toNat := ⟨_, rfl⟩
     have hy88 : y258.length = l1.length - (a3 : Int).toNat := (by rw [Ny258.out, List.length_drop] <;> omega)
     rw [show (l1).drop (a3 : Int).toNat = y258 from Ny258.out.symm] at hr88
     replace hr88 : Kd.F (Kd.int .u8) _ _ A88 y258.length y258 := (by rw [hA88]; exact hr88)
     rw [← hy88, ← hA88, ← hc88] at hcut88
     have HO262 := Aside0.mk (show Kd.V (Kd.int .u8) 5 _ w.heap.size _ (.slice A88 y258.length c88) y258 from Kd.V_mk (by rw [hy88, hc88]; exact Nat.sub_le_sub_right hroom88 _) hr88)
     have HC262 := Aside0.mk (show y258.length ≤ c88 from by rw [hy88, hc88]; exact Nat.sub_le_sub_right hroom88 _)
     clear hr88 hC88 hroom88 hi088 hsz88 hc88
     have KY88 := Aside0.mk hy88
     have KA88 := Aside0.mk hA88
     clear hy88 hA88
     replace q88 := eq_true q88
     have q89 : (a2 : Int) ≤ ((l1.length : Int) : Int) := of_decide_eq_true (by first | (with_reducible assumption) | assumption)
     obtain ⟨i089, hi089, _, hsz89, _⟩ := info_parts info5
     have hroom89 : l1.length ≤ c1 := (Kd.V_reads' HO_1.out).2.1
     have hC89 : Kd.F (Kd.int .u8) _ _ A1 l1.length l1 := (Kd.V_at (base := w.heap.size) HO_1.out).2.2
     have q089 : (0 : Int) ≤ (a2 : Int) := of_decide_eq_true (by first | (with_reducible assumption) | assumption)
     have hcut89 := cut_from (P := Try.prog) 28 5 .i64 Try.underlying28 hi089 1 hsz89 A1 l1.length c1 a2 q089 q89
     have hr89 := Kd.F_cut (m := (a2 : Int).toNat) (c := c1) hC89 (by omega) hroom89
     obtain ⟨A89, hA89⟩ : ∃ A_, A_ = (if c1 = (a2 : Int).toNat then A1 else (A1 : Option Addr).map (·.add ((a2 : Int).toNat * 1))) := ⟨_, rfl⟩
     obtain ⟨c89, hc89⟩ : ∃ c_, c_ = c1 - (a2 : Int).toNat := ⟨_, rfl⟩
     have hy89 : y272.length = l1.length - (a2 : Int).toNat := (by rw [Ny272.out, List.length_drop] <;> omega)
     rw [show (l1).drop (a2 : Int).toNat = y272 from Ny272.out.symm] at hr89
     replace hr89 : Kd.F (Kd.int .u8) _ _ A89 y272.length y272 := (by rw [hA89]; exact hr89)
     rw [← hy89, ← hA89, ← hc89] at hcut89
     have HO276 := Aside0.mk (show Kd.V (Kd.int .u8) 5 _ w.heap.size _ (.slice A89 y272.length c89) y272 from Kd.V_mk (by rw [hy89, hc89]; exact Nat.sub_le_sub_right hroom89 _) hr89)
     have HC276 := Aside0.mk (show y272.length ≤ c89 from by rw [hy89, hc89]; exact Nat.sub_le_sub_right hroom89 _)
     clear hr89 hC89 hroom89 hi089 hsz89 hc89
     have KY89 := Aside0.mk hy89
     have KA89 := Aside0.mk hA89
     clear hy89 hA89
     replace q89 := eq_true q89
     refine start_ (n := 42) (S := fun w' => w'.heap[gb194]? = some (.cells (tabC a0_0) 24 (0, 0)) ∧ (convert 28 9 (v204)).run Try.prog w' = .ok (.string (strOfNums t203)) w') (ds := []) tq87 (by kernel_rfl) rfl rfl ⟨BK194.out, (own_string (P := Try.prog) Try.underlying28 Try.underlying5 Try.underlying9 (Kd.own_of_R HO_11.out))⟩ (fun hHeld => ?_); refine with_tabW decklelaw02_CrcParts.tab8 decklelaw02_CrcParts.bits8 (fun HT_ HW_ => ?_)
     generalize wc.drew = w85 at HO_1 HO_11 BK194 HB HO252 HO257 HO262 HO276 hHeld ⊢
     refine pure_ (i := 0) (N := some 81) (v := ?_) (a' := ?_) tq86 rfl rfl (any_of HT_.out (by kernel_rfl)) (fun _ _ _ h => h) (Or.inl ⟨by rfl, ?_⟩) ?_ ?_
     rotate_left
     ·intro w'
      go_simp
      with_reducible rfl
     rotate_left
     ·simp only [Act.put, sA, sZ, sS, i64_w, i32_w]
      rfl
     refine pure_ (i := 1) (N := some 82) (v := ?_) (a' := ?_) tq84 rfl rfl (any_of HT_.out (by kernel_rfl)) (fun _ _ _ h => h) (Or.inl ⟨by rfl, ?_⟩) ?_ ?_
     rotate_left
     ·intro w'
      go_simp
      with_reducible rfl
     rotate_left
     ·simp only [Act.put, sA, sZ, sS, i64_w, i32_w]
      rfl
     refine pure_ (i := 3) (N := some 84) (v := ?_) (a' := ?_) tq82 rfl rfl (any_of HT_.out (by kernel_rfl)) (fun _ _ _ h => h) (Or.inl ⟨by rfl, ?_⟩) ?_ ?_
     rotate_left
     ·intro w'
      go_simp
      with_reducible rfl
     rotate_left
     ·simp only [Act.put, sA, sZ, sS, i64_w, i32_w]
      rfl
     refine pure_ (i := 4) (N := some 85) (v := ?_) (a' := ?_) tq80 rfl rfl (any_of HT_.out (by kernel_rfl)) (fun _ _ _ h => h) (Or.inl ⟨by rfl, ?_⟩) ?_ ?_
     rotate_left
     ·intro w'
      go_simp
      with_reducible rfl
     rotate_left
     ·simp only [Act.put, sA, sZ, sS, i64_w, i32_w]
      rfl
     refine pure_ (i := 5) (N := some 86) (v := ?_) (a' := ?_) tq78 rfl rfl (any_of HT_.out (by kernel_rfl)) (fun _ _ _ h => h) (Or.inl ⟨by rfl, ?_⟩) ?_ ?_
     rotate_left
     ·intro w'
      go_simp
      with_reducible rfl
     rotate_left
     ·simp only [Act.put, sA, sZ, sS, i64_w, i32_w]
      rfl
     refine pure_ (i := 6) (N := some 87) (v := ?_) (a' := ?_) tq76 rfl rfl (any_of HT_.out (by kernel_rfl)) (fun _ _ _ h => h) (Or.inl ⟨by rfl, ?_⟩) ?_ ?_
     rotate_left
     ·intro w'
      go_simp
      with_reducible rfl
     rotate_left
     ·simp only [Act.put, sA, sZ, sS, i64_w, i32_w]
      rfl
     refine pure_ (i := 7) (N := some 88) (v := ?_) (a' := ?_) tq74 rfl rfl (any_of HT_.out (by kernel_rfl)) (fun _ _ _ h => h) (Or.inl ⟨by rfl, ?_⟩) ?_ ?_
     rotate_left
     ·intro w'
      go_simp
      with_reducible rfl
     rotate_left
     ·simp only [Act.put, sA, sZ, sS, i64_w, i32_w]
      rfl
     refine pure_ (i := 8) (N := some 89) (v := ?_) (a' := ?_) tq72 rfl rfl (any_of HT_.out (by kernel_rfl)) (fun _ _ _ h => h) (Or.inl ⟨by rfl, ?_⟩) ?_ ?_
     rotate_left
     ·intro w'
      go_simp
      with_reducible rfl
     rotate_left
     ·simp only [Act.put, sA, sZ, sS, i64_w, i32_w]
      rfl
     refine pure_ (i := 9) (N := some 90) (v := ?_) (a' := ?_) tq70 rfl rfl (any_of HT_.out (by kernel_rfl)) (fun _ _ _ h => h) (Or.inl ⟨by rfl, ?_⟩) ?_ ?_
     rotate_left
     ·intro w'
      go_simp
      with_reducible rfl
     rotate_left
     ·simp only [Act.put, sA, sZ, sS, i64_w, i32_w]
      rfl
     refine pure_ (i := 10) (N := some 91) (v := ?_) (a' := ?_) tq68 rfl rfl (any_of HT_.out (by kernel_rfl)) (fun _ _ _ h => h) (Or.inl ⟨by rfl, ?_⟩) ?_ ?_
     rotate_left
     ·intro w'
      go_simp
      with_reducible rfl
     rotate_left
     ·simp only [Act.put, sA, sZ, sS, i64_w, i32_w]
      rfl
     refine pure_ (i := 11) (N := some 92) (v := ?_) (a' := ?_) tq66 rfl rfl (any_of HT_.out (by kernel_rfl)) (fun _ _ _ h => h) (Or.inl ⟨by rfl, ?_⟩) ?_ ?_
     rotate_left
     ·intro w'
      go_simp
      with_reducible rfl
     rotate_left
     ·simp only [Act.put, sA, sZ, sS, i64_w, i32_w]
      rfl
     refine pure_ (i := 12) (N := some 93) (v := ?_) (a' := ?_) tq64 rfl rfl (any_of HT_.out (by kernel_rfl)) (fun _ _ _ h => h) (Or.inl ⟨by rfl, ?_⟩) ?_ ?_
     rotate_left
     ·intro w'
      go_simp
      with_reducible rfl
     rotate_left
     ·simp only [Act.put, sA, sZ, sS, i64_w, i32_w]
      rfl
     refine pure_ (i := 15) (N := some 96) (v := ?_) (a' := ?_) tq61 rfl rfl (any_of HT_.out (by kernel_rfl)) (fun _ _ _ h => h) (Or.inl ⟨by rfl, ?_⟩) ?_ ?_
     rotate_left
     ·intro w'
      go_simp
      with_reducible rfl
     rotate_left
     ·simp only [Act.put, sA, sZ, sS, i64_w, i32_w]
      rfl
     refine take_ (i := 2) (N := some 83) (v := ?_) (a' := ?_) tq60 rfl rfl (take_ofW HT_.out HW_.out (by kernel_rfl)) (fun _ _ _ h => h) (Or.inl ⟨by rfl, ?_⟩) hHeld ?_ ?_
     rotate_left
     ·rintro w' ⟨s0, s1⟩
      (first | (rw [tab_load_run (x := .tmp 4) rfl rfl (by assumption)]) | (go_simp; with_reducible rfl))
     rotate_left
     ·simp only [Act.put, sA, sZ, sS, i64_w, i32_w]
      rfl
     refine one_ (i := 13) (N := some 94) tq57 rfl rfl (one_of HT_.out (by kernel_rfl)) (by decide) (fun K hK => ?_)
     refine Kd.N_lit_step (Kd.slice 5 (Kd.int .u8)) _ 28 ?hg (N' := 94) ?hd (xs := ([y248, y253, [], y258] : List (List Int))) (inner := [.slice A1 y248.length c1, .slice A87 y253.length c87, .slice none 0 0, .slice A88 y258.length c88]) (ok := (fun k_ => (P1_ k_ ∨ w.heap.size ≤ k_) ∧ NB v204 k_ ∧ k_ ≠ gb194)) (okp := (fun k_ => (P1_ k_ ∨ w.heap.size ≤ k_) ∧ NB v204 k_ ∧ k_ ≠ gb194)) ?hr ?hp (fun _ hk => hk) ((show ∀ k_, w85.heap.size ≤ k_ → (fun k_ => (P1_ k_ ∨ w.heap.size ≤ k_) ∧ NB v204 k_ ∧ k_ ≠ gb194) k_ from fun k_ hk => ⟨.inr (fW HB hk), Kd.fresh' (Kd.R_lt HO_11.out) k_ hk, fB BK194 hk⟩) _ (Nat.le_refl _)) (Below.refl _ _) (Nat.le_refl _) (by simp) ?_; (case hd => rfl); (case hg => rfl); (case hr => first | (go_simp; done) | (go_simp; rfl)); (case hp => exact (Reps.one (show Kd.FK (Kd.slice 5 (Kd.int .u8)) _ _ y248 [.slice A1 y248.length c1] from (Kd.FK_slice_mk (Kd.V_reads' (Kd.V_mono (ok' := (fun k_ => (P1_ k_ ∨ w.heap.size ≤ k_) ∧ NB v204 k_ ∧ k_ ≠ gb194)) (HO252.out) (fun k_ hk => ⟨hk.1, hk.2.1, hk.2.2⟩))).2.1 (Kd.V_F (Kd.V_mono (ok' := (fun k_ => (P1_ k_ ∨ w.heap.size ≤ k_) ∧ NB v204 k_ ∧ k_ ≠ gb194)) (HO252.out) (fun k_ hk => ⟨hk.1, hk.2.1, hk.2.2⟩))))) (Reps.one (show Kd.FK (Kd.slice 5 (Kd.int .u8)) _ _ y253 [.slice A87 y253.length c87] from (Kd.FK_slice_mk (Kd.V_reads' (Kd.V_mono (ok' := (fun k_ => (P1_ k_ ∨ w.heap.size ≤ k_) ∧ NB v204 k_ ∧ k_ ≠ gb194)) (HO257.out) (fun k_ hk => ⟨hk.1, hk.2.1, hk.2.2⟩))).2.1 (Kd.V_F (Kd.V_mono (ok' := (fun k_ => (P1_ k_ ∨ w.heap.size ≤ k_) ∧ NB v204 k_ ∧ k_ ≠ gb194)) (HO257.out) (fun k_ hk => ⟨hk.1, hk.2.1, hk.2.2⟩))))) (Reps.one (show Kd.FK (Kd.slice 5 (Kd.int .u8)) _ _ [] [.slice none 0 0] from (Kd.FK_slice_mk (Nat.le_refl _) (Kd.F_nil _ _ _))) (Reps.one (show Kd.FK (Kd.slice 5 (Kd.int .u8)) _ _ y258 [.slice A88 y258.length c88] from (Kd.FK_slice_mk (Kd.V_reads' (Kd.V_mono (ok' := (fun k_ => (P1_ k_ ∨ w.heap.size ≤ k_) ∧ NB v204 k_ ∧ k_ ≠ gb194)) (HO262.out) (fun k_ hk => ⟨hk.1, hk.2.1, hk.2.2⟩))).2.1 (Kd.V_F (Kd.V_mono (ok' := (fun k_ => (P1_ k_ ∨ w.heap.size ≤ k_) ∧ NB v204 k_ ∧ k_ ≠ gb194)) (HO262.out) (fun k_ hk => ⟨hk.1, hk.2.1, hk.2.2⟩))))) (Reps.none _ _))))))
     intro v264 w90 ho91 hb hg_ hnew_
     clear hg_ hnew_
     rw [← Ny263.out] at ho91
     have HO265 := nL ho91 HB
     replace HO_1 := vE HO_1 ho91 hb
     replace HO_11 := rB HO_11 hb
     replace HO252 := vE HO252 ho91 hb
     replace HO257 := vE HO257 ho91 hb
     replace HO262 := vE HO262 ho91 hb
     replace HO276 := vE HO276 ho91 hb
     replace BK194 := bB BK194 hb
     replace HB := hB HB hb
     clear hb ho91
     obtain ⟨Ao92, co92, eo92⟩ := Kd.N_slice HO265.out
     (first | subst eo92 | (injection eo92 with f1_ f2_ f3_; have f4_ := f1_.symm; have f5_ := f3_.symm; clear f1_ f2_ f3_; subst f4_; subst f5_))
     refine hK.out _ _ ⟨BK194.out, (own_string (P := Try.prog) Try.underlying28 Try.underlying5 Try.underlying9 (Kd.own_of_R HO_11.out))⟩ (fun hHeld => ?_)
     clear hK K
     refine norm_ (a' := ?_) ?_ ?_
     rotate_left
     ·show Act.put _ (some 94) _ = _
      simp only [Act.put, sA, sZ, sS, i64_w, i32_w]
      rfl
     refine one_ (i := 14) (N := some 95) tq54 rfl rfl (one_of HT_.out (by kernel_rfl)) (by decide) (fun K hK => ?_)
     refine goes_ Try.func15 (by kernel_rfl) rfl #[.agg (tabC a0_0), .slice Ao92 y263.length co92] (by rfl) rfl rfl (by (try simp only [List.map_toArray, List.map_cons, List.map_nil]); first | done | rfl | (simp only [List.length_drop, List.length_take]; rfl)) ?_
     with_reducible refine (crc_Sum.calls kj14 a0_0 _ _ y263 t266 _ ?side1 ?side2 A76.out).mono ?_
     (case side1 => repeat (first | exact (Kd.N_reads' HO265.out).2.2 | (with_reducible refine Kd.C_alloc ?_ _) | (with_reducible refine Kd.C_drewN ?_ _) | (with_reducible refine Kd.C_drew ?_)))
     (case side2 => exact (Kd.N_reads' HO265.out).2.1)
     rintro e w93 ⟨rfl, hb⟩
     refine ⟨_, rfl, ?_⟩
     replace HO_1 := vB HO_1 hb
     replace HO_11 := rB HO_11 hb
     replace HO252 := vB HO252 hb
     replace HO257 := vB HO257 hb
     replace HO262 := vB HO262 hb
     replace HO276 := vB HO276 hb
     replace HO265 := nB HO265 hb
     replace BK194 := bB BK194 hb
     replace HB := hB HB hb
     (try clear hb)
     (try clear hb2)
     (try clear hk)
     (try clear hi)
     refine hK.out _ _ ⟨BK194.out, (own_string (P := Try.prog) Try.underlying28 Try.underlying5 Try.underlying9 (Kd.own_of_R HO_11.out))⟩ (fun hHeld => ?_)
     clear hK K
     refine norm_ (a' := ?_) ?_ ?_
     rotate_left
     ·show Act.put _ (some 95) _ = _
      simp only [Act.put, sA, sZ, sS, i64_w, i32_w]
      rfl
     refine pure_ (i := 16) (N := some 97) (v := ?_) (a' := ?_) tq51 rfl rfl (any_of HT_.out (by kernel_rfl)) (fun _ _ _ h => h) (Or.inl ⟨by rfl, ?_⟩) ?_ ?_
     rotate_left
     ·intro w'
      go_simp
      with_reducible rfl
     rotate_left
     ·simp only [Act.put, sA, sZ, sS, i64_w, i32_w]
      rfl
     refine pure_ (i := 17) (N := some 98) (v := ?_) (a' := ?_) tq49 rfl rfl (any_of HT_.out (by kernel_rfl)) (fun _ _ _ h => h) (Or.inl ⟨by rfl, ?_⟩) ?_ ?_
     rotate_left
     ·intro w'
      go_simp
      with_reducible rfl
     rotate_left
     ·simp only [Act.put, sA, sZ, sS, i64_w, i32_w]
      rfl
     refine pure_ (i := 18) (N := some 99) (v := ?_) (a' := ?_) tq47 rfl rfl (any_of HT_.out (by kernel_rfl)) (fun _ _ _ h => h) (Or.inl ⟨by rfl, ?_⟩) ?_ ?_
     rotate_left
     ·intro w'
      go_simp
      with_reducible rfl
     rotate_left
     ·simp only [Act.put, sA, sZ, sS, i64_w, i32_w]
      rfl
     refine pure_ (i := 20) (N := some 101) (v := ?_) (a' := ?_) tq45 rfl rfl (any_of HT_.out (by kernel_rfl)) (fun _ _ _ h => h) (Or.inl ⟨by rfl, ?_⟩) ?_ ?_
     rotate_left
     ·intro w'
      go_simp
      with_reducible rfl
     rotate_left
     ·simp only [Act.put, sA, sZ, sS, i64_w, i32_w]
      rfl
     refine pure_ (i := 21) (N := some 102) (v := ?_) (a' := ?_) tq43 rfl rfl (any_of HT_.out (by kernel_rfl)) (fun _ _ _ h => h) (Or.inl ⟨by rfl, ?_⟩) ?_ ?_
     rotate_left
     ·intro w'
      go_simp
      with_reducible rfl
     rotate_left
     ·simp only [Act.put, sA, sZ, sS, i64_w, i32_w]
      rfl
     refine pure_ (i := 22) (N := some 103) (v := ?_) (a' := ?_) tq41 rfl rfl (any_of HT_.out (by kernel_rfl)) (fun _ _ _ h => h) (Or.inl ⟨by rfl, ?_⟩) ?_ ?_
     rotate_left
     ·intro w'
      go_simp
      with_reducible rfl
     rotate_left
     ·simp only [Act.put, sA, sZ, sS, i64_w, i32_w]
      rfl
     refine pure_ (i := 23) (N := some 104) (v := ?_) (a' := ?_) tq39 rfl rfl (any_of HT_.out (by kernel_rfl)) (fun _ _ _ h => h) (Or.inl ⟨by rfl, ?_⟩) ?_ ?_
     rotate_left
     ·intro w'
      go_simp
      with_reducible rfl
     rotate_left
     ·simp only [Act.put, sA, sZ, sS, i64_w, i32_w]
      rfl
     refine pure_ (i := 24) (N := some 105) (v := ?_) (a' := ?_) tq37 rfl rfl (any_of HT_.out (by kernel_rfl)) (fun _ _ _ h => h) (Or.inl ⟨by rfl, ?_⟩) ?_ ?_
     rotate_left
     ·intro w'
      go_simp
      with_reducible rfl
     rotate_left
     ·simp only [Act.put, sA, sZ, sS, i64_w, i32_w]
      rfl
     refine pure_ (i := 25) (N := some 106) (v := ?_) (a' := ?_) tq35 rfl rfl (any_of HT_.out (by kernel_rfl)) (fun _ _ _ h => h) (Or.inl ⟨by rfl, ?_⟩) ?_ ?_
     rotate_left
     ·intro w'
      go_simp
      with_reducible rfl
     rotate_left
     ·simp only [Act.put, sA, sZ, sS, i64_w, i32_w]
      rfl
     refine pure_ (i := 29) (N := some 110) (v := ?_) (a' := ?_) tq33 rfl rfl (any_of HT_.out (by kernel_rfl)) (fun _ _ _ h => h) (Or.inl ⟨by rfl, ?_⟩) ?_ ?_
     rotate_left
     ·intro w'
      go_simp
      with_reducible rfl
     rotate_left
     ·simp only [Act.put, sA, sZ, sS, i64_w, i32_w]
      rfl
     refine take_ (i := 19) (N := some 100) (v := ?_) (a' := ?_) tq32 rfl rfl (take_ofW HT_.out HW_.out (by kernel_rfl)) (fun _ _ _ h => h) (Or.inl ⟨by rfl, ?_⟩) hHeld ?_ ?_
     rotate_left
     ·rintro w' ⟨s0, s1⟩
      (first | (rw [tab_load_run (x := .tmp 4) rfl rfl (by assumption)]) | (go_simp; with_reducible rfl))
     rotate_left
     ·simp only [Act.put, sA, sZ, sS, i64_w, i32_w]
      rfl
     refine take_ (i := 30) (N := some 111) (v := ?_) (a' := ?_) tq30 rfl rfl (take_ofW HT_.out HW_.out (by kernel_rfl)) (fun _ _ _ h => h) (Or.inl ⟨by rfl, ?_⟩) hHeld ?_ ?_
     rotate_left
     ·rintro w' ⟨s0, s1⟩
      (first | (rw [tab_load_run (x := .tmp 4) rfl rfl (by assumption)]) | (go_simp; with_reducible rfl))
     rotate_left
     ·simp only [Act.put, sA, sZ, sS, i64_w, i32_w]
      rfl
     refine one_ (i := 26) (N := some 107) tq28 rfl rfl (one_of HT_.out (by kernel_rfl)) (by decide) (fun K hK => ?_)
     refine Kd.N_lit_step (Kd.slice 5 (Kd.int .u8)) _ 28 ?hg (N' := 107) ?hd (xs := ([y248, [], y272] : List (List Int))) (inner := [.slice A1 y248.length c1, .slice none 0 0, .slice A89 y272.length c89]) (ok := (fun k_ => (P1_ k_ ∨ w.heap.size ≤ k_) ∧ NB v204 k_ ∧ NB (.slice Ao92 y263.length co92) k_ ∧ k_ ≠ gb194)) (okp := (fun k_ => (P1_ k_ ∨ w.heap.size ≤ k_) ∧ NB v204 k_ ∧ NB (.slice Ao92 y263.length co92) k_ ∧ k_ ≠ gb194)) ?hr ?hp (fun _ hk => hk) ((show ∀ k_, w93.heap.size ≤ k_ → (fun k_ => (P1_ k_ ∨ w.heap.size ≤ k_) ∧ NB v204 k_ ∧ NB (.slice Ao92 y263.length co92) k_ ∧ k_ ≠ gb194) k_ from fun k_ hk => ⟨.inr (fW HB hk), Kd.fresh' (Kd.R_lt HO_11.out) k_ hk, fN HO265 hk, fB BK194 hk⟩) _ (Nat.le_refl _)) (Below.refl _ _) (Nat.le_refl _) (by simp) ?_; (case hd => rfl); (case hg => rfl); (case hr => first | (go_simp; done) | (go_simp; rfl)); (case hp => exact (Reps.one (show Kd.FK (Kd.slice 5 (Kd.int .u8)) _ _ y248 [.slice A1 y248.length c1] from (Kd.FK_slice_mk (Kd.V_reads' (Kd.V_mono (ok' := (fun k_ => (P1_ k_ ∨ w.heap.size ≤ k_) ∧ NB v204 k_ ∧ NB (.slice Ao92 y263.length co92) k_ ∧ k_ ≠ gb194)) (HO252.out) (fun k_ hk => ⟨hk.1.1, hk.1.2.1, hk.2, hk.1.2.2⟩))).2.1 (Kd.V_F (Kd.V_mono (ok' := (fun k_ => (P1_ k_ ∨ w.heap.size ≤ k_) ∧ NB v204 k_ ∧ NB (.slice Ao92 y263.length co92) k_ ∧ k_ ≠ gb194)) (HO252.out) (fun k_ hk => ⟨hk.1.1, hk.1.2.1, hk.2, hk.1.2.2⟩))))) (Reps.one (show Kd.FK (Kd.slice 5 (Kd.int .u8)) _ _ [] [.slice none 0 0] from (Kd.FK_slice_mk (Nat.le_refl _) (Kd.F_nil _ _ _))) (Reps.one (show Kd.FK (Kd.slice 5 (Kd.int .u8)) _ _ y272 [.slice A89 y272.length c89] from (Kd.FK_slice_mk (Kd.V_reads' (Kd.V_mono (ok' := (fun k_ => (P1_ k_ ∨ w.heap.size ≤ k_) ∧ NB v204 k_ ∧ NB (.slice Ao92 y263.length co92) k_ ∧ k_ ≠ gb194)) (HO276.out) (fun k_ hk => ⟨hk.1.1, hk.1.2.1, hk.2, hk.1.2.2⟩))).2.1 (Kd.V_F (Kd.V_mono (ok' := (fun k_ => (P1_ k_ ∨ w.heap.size ≤ k_) ∧ NB v204 k_ ∧ NB (.slice Ao92 y263.length co92) k_ ∧ k_ ≠ gb194)) (HO276.out) (fun k_ hk => ⟨hk.1.1, hk.1.2.1, hk.2, hk.1.2.2⟩))))) (Reps.none _ _)))))
     intro v278 w94 ho95 hb hg_ hnew_
     clear hg_ hnew_
     rw [← Ny277.out] at ho95
     have HO279 := nL ho95 HB
     replace HO_1 := vE HO_1 ho95 hb
     replace HO_11 := rB HO_11 hb
     replace HO252 := vE HO252 ho95 hb
     replace HO257 := vE HO257 ho95 hb
     replace HO262 := vE HO262 ho95 hb
     replace HO276 := vE HO276 ho95 hb
     replace HO265 := nE HO265 ho95 hb
     replace BK194 := bB BK194 hb
     replace HB := hB HB hb
     clear hb ho95
     obtain ⟨Ao96, co96, eo96⟩ := Kd.N_slice HO279.out
     (first | subst eo96 | (injection eo96 with f1_ f2_ f3_; have f4_ := f1_.symm; have f5_ := f3_.symm; clear f1_ f2_ f3_; subst f4_; subst f5_))
     refine hK.out _ _ ⟨BK194.out, (own_string (P := Try.prog) Try.underlying28 Try.underlying5 Try.underlying9 (Kd.own_of_R HO_11.out))⟩ (fun hHeld => ?_)
     clear hK K
     refine norm_ (a' := ?_) ?_ ?_
     rotate_left
     ·show Act.put _ (some 107) _ = _
      simp only [Act.put, sA, sZ, sS, i64_w, i32_w]
      rfl
     refine one_ (i := 27) (N := some 108) tq24 rfl rfl (one_of HT_.out (by kernel_rfl)) (by decide) (fun K hK => ?_)
     refine goes_ Try.func14 (by kernel_rfl) rfl #[.agg (tabC a0_0), .slice Ao96 y277.length co96] (by rfl) rfl rfl (by (try simp only [List.map_toArray, List.map_cons, List.map_nil]); first | done | rfl | (simp only [List.length_drop, List.length_take]; rfl)) ?_
     with_reducible refine (crc_Seal.calls kj14 a0_0 _ _ y277 t280 _ ?side1 ?side2 A82.out).mono ?_
     (case side1 => repeat (first | exact (Kd.N_reads' HO279.out).2.2 | (with_reducible refine Kd.C_alloc ?_ _) | (with_reducible refine Kd.C_drewN ?_ _) | (with_reducible refine Kd.C_drew ?_)))
     (case side2 => exact (Kd.N_reads' HO279.out).2.1)
     rintro e w97 ⟨v281, rfl, ho0, hb⟩
     refine ⟨_, rfl, ?_⟩
     have HO282 := Aside0.mk (Kd.R_lower (Kd.R_new' (Kd.R_newM (M := fun k_ => (w.heap.size ≤ k_)) ho0 (below_size HB.out) (fun k_ h_ => h_)) (Kd.R_lt HO_11.out)) (below_size HB.out))
     replace HO_1 := Aside0.mk (Kd.V_elder' HO_1.out (Kd.R_base ho0) hb)
     replace HO_11 := Aside0.mk (Kd.R_elder' HO_11.out (Kd.R_base ho0) hb)
     replace HO252 := Aside0.mk (Kd.V_elder' HO252.out (Kd.R_base ho0) hb)
     replace HO257 := Aside0.mk (Kd.V_elder' HO257.out (Kd.R_base ho0) hb)
     replace HO262 := Aside0.mk (Kd.V_elder' HO262.out (Kd.R_base ho0) hb)
     replace HO276 := Aside0.mk (Kd.V_elder' HO276.out (Kd.R_base ho0) hb)
     replace HO265 := Aside0.mk (Kd.N_elder' HO265.out (Kd.R_base ho0) hb)
     replace HO279 := Aside0.mk (Kd.N_elder' HO279.out (Kd.R_base ho0) hb)
     replace BK194 := bB BK194 hb
     replace HB := hB HB hb
     (try clear hb)
     (try clear hb2)
     (try clear hk)
     (try clear hi)
     (try clear ho0)
     refine hK.out _ _ ⟨BK194.out, (own_string (P := Try.prog) Try.underlying28 Try.underlying5 Try.underlying9 (Kd.own_of_R HO_11.out))⟩ (fun hHeld => ?_)
     clear hK K
     refine norm_ (a' := ?_) ?_ ?_
     rotate_left
     ·show Act.put _ (some 108) _ = _
      simp only [Act.put, sA, sZ, sS, i64_w, i32_w]
      rfl
     refine one_ (i := 28) (N := some 109) tq22 rfl rfl (one_of HT_.out (by kernel_rfl)) (by decide) (fun K hK => ?_)
     have hcv98 := own_string (P := Try.prog) Try.underlying28 Try.underlying5 Try.underlying9 (Kd.own_of_R HO282.out)
     refine value_ (w1 := ?_) (v := ?_) (by rfl) rfl ?_ ?_
     rotate_left 2
     ·go_simp
      constructor
      ·rfl
      rfl
     clear hcv98
     refine hK.out _ _ ⟨BK194.out, (own_string (P := Try.prog) Try.underlying28 Try.underlying5 Try.underlying9 (Kd.own_of_R HO_11.out))⟩ (fun hHeld => ?_)
     clear hK K
     refine norm_ (a' := ?_) ?_ ?_
     rotate_left
     ·show Act.put _ (some 109) _ = _
      simp only [Act.put, sA, sZ, sS, i64_w, i32_w]
      rfl
     refine pure_ (i := 31) (N := some 112) (v := ?_) (a' := ?_) tq19 rfl rfl (any_of HT_.out (by kernel_rfl)) (fun _ _ _ h => h) (Or.inl ⟨by rfl, ?_⟩) ?_ ?_
     rotate_left
     ·intro w'
      go_simp
      with_reducible rfl
     rotate_left
     ·simp only [Act.put, sA, sZ, sS, i64_w, i32_w]
      rfl
     refine pure_ (i := 32) (N := some 113) (v := ?_) (a' := ?_) tq17 rfl rfl (any_of HT_.out (by kernel_rfl)) (fun _ _ _ h => h) (Or.inl ⟨by rfl, ?_⟩) ?_ ?_
     rotate_left
     ·intro w'
      go_simp
      with_reducible rfl
     rotate_left
     ·simp only [Act.put, sA, sZ, sS, i64_w, i32_w]
      rfl
     refine pure_ (i := 33) (N := some 114) (v := ?_) (a' := ?_) tq15 rfl rfl (any_of HT_.out (by kernel_rfl)) (fun _ _ _ h => h) (Or.inl ⟨by rfl, ?_⟩) ?_ ?_
     rotate_left
     ·intro w'
      go_simp
      with_reducible rfl
     rotate_left
     ·simp only [Act.put, sA, sZ, sS, i64_w, i32_w]
      rfl
     refine pure_ (i := 35) (N := some 116) (v := ?_) (a' := ?_) tq13 rfl rfl (any_of HT_.out (by kernel_rfl)) (fun _ _ _ h => h) (Or.inl ⟨by rfl, ?_⟩) ?_ ?_
     rotate_left
     ·intro w'
      go_simp
      with_reducible rfl
     rotate_left
     ·simp only [Act.put, sA, sZ, sS, i64_w, i32_w]
      rfl
     refine pure_ (i := 38) (N := some 119) (v := ?_) (a' := ?_) tq11 rfl rfl (any_of HT_.out (by kernel_rfl)) (fun _ _ _ h => h) (Or.inl ⟨by rfl, ?_⟩) ?_ ?_
     rotate_left
     ·intro w'
      go_simp
      with_reducible rfl
     rotate_left
     ·simp only [Act.put, sA, sZ, sS, i64_w, i32_w]
      rfl
     refine take_ (i := 34) (N := some 115) (v := ?_) (a' := ?_) tq10 rfl rfl (take_ofW HT_.out HW_.out (by kernel_rfl)) (fun _ _ _ h => h) (Or.inl ⟨by rfl, ?_⟩) hHeld ?_ ?_
     rotate_left
     ·rintro w' ⟨s0, s1⟩
      (first | (rw [tab_load_run (x := .tmp 4) rfl rfl (by assumption)]) | (go_simp; with_reducible rfl))
     rotate_left
     ·simp only [Act.put, sA, sZ, sS, i64_w, i32_w]
      rfl
     refine one_ (i := 36) (N := some 117) tq7 rfl rfl (one_of HT_.out (by kernel_rfl)) (by decide) (fun K hK => ?_)
     refine Kd.N_lit_step (Kd.slice 5 (Kd.int .u8)) _ 28 ?hg (N' := 117) ?hd (xs := ([[], l1] : List (List Int))) (inner := [.slice none 0 0, .slice A1 l1.length c1]) (ok := (fun k_ => (P1_ k_ ∨ w.heap.size ≤ k_) ∧ NB v204 k_ ∧ NB (.slice Ao92 y263.length co92) k_ ∧ NB (.slice Ao96 y277.length co96) k_ ∧ NB v281 k_ ∧ k_ ≠ gb194)) (okp := (fun k_ => (P1_ k_ ∨ w.heap.size ≤ k_) ∧ NB v204 k_ ∧ NB (.slice Ao92 y263.length co92) k_ ∧ NB (.slice Ao96 y277.length co96) k_ ∧ NB v281 k_ ∧ k_ ≠ gb194)) ?hr ?hp (fun _ hk => hk) ((show ∀ k_, w97.heap.size ≤ k_ → (fun k_ => (P1_ k_ ∨ w.heap.size ≤ k_) ∧ NB v204 k_ ∧ NB (.slice Ao92 y263.length co92) k_ ∧ NB (.slice Ao96 y277.length co96) k_ ∧ NB v281 k_ ∧ k_ ≠ gb194) k_ from fun k_ hk => ⟨.inr (fW HB hk), Kd.fresh' (Kd.R_lt HO_11.out) k_ hk, fN HO265 hk, fN HO279 hk, Kd.fresh' (Kd.R_lt HO282.out) k_ hk, fB BK194 hk⟩) _ (Nat.le_refl _)) (Below.refl _ _) (Nat.le_refl _) (by simp) ?_; (case hd => rfl); (case hg => rfl); (case hr => first | (go_simp; done) | (go_simp; rfl)); (case hp => exact (Reps.one (show Kd.FK (Kd.slice 5 (Kd.int .u8)) _ _ [] [.slice none 0 0] from (Kd.FK_slice_mk (Nat.le_refl _) (Kd.F_nil _ _ _))) (Reps.one (show Kd.FK (Kd.slice 5 (Kd.int .u8)) _ _ l1 [.slice A1 l1.length c1] from (Kd.FK_slice_mk (Kd.V_reads' (Kd.V_mono (ok' := (fun k_ => (P1_ k_ ∨ w.heap.size ≤ k_) ∧ NB v204 k_ ∧ NB (.slice Ao92 y263.length co92) k_ ∧ NB (.slice Ao96 y277.length co96) k_ ∧ NB v281 k_ ∧ k_ ≠ gb194)) (HO_1.out) (fun k_ hk => ⟨hk.1.1.1.1, hk.1.1.1.2.1, hk.1.1.2, hk.1.2, hk.2, hk.1.1.1.2.2⟩))).2.1 (Kd.V_F (Kd.V_mono (ok' := (fun k_ => (P1_ k_ ∨ w.heap.size ≤ k_) ∧ NB v204 k_ ∧ NB (.slice Ao92 y263.length co92) k_ ∧ NB (.slice Ao96 y277.length co96) k_ ∧ NB v281 k_ ∧ k_ ≠ gb194)) (HO_1.out) (fun k_ hk => ⟨hk.1.1.1.1, hk.1.1.1.2.1, hk.1.1.2, hk.1.2, hk.2, hk.1.1.1.2.2⟩))))) (Reps.none _ _))))
     intro v284 w100 ho101 hb hg_ hnew_
     clear hg_ hnew_
     rw [← Ny283.out] at ho101
     have HO285 := nL ho101 HB
     replace HO_1 := vE HO_1 ho101 hb
     replace HO_11 := rB HO_11 hb
     replace HO252 := vE HO252 ho101 hb
     replace HO257 := vE HO257 ho101 hb
     replace HO262 := vE HO262 ho101 hb
     replace HO276 := vE HO276 ho101 hb
     replace HO265 := nE HO265 ho101 hb
     replace HO279 := nE HO279 ho101 hb
     replace HO282 := rB HO282 hb
     replace BK194 := bB BK194 hb
     replace HB := hB HB hb
     clear hb ho101
     obtain ⟨Ao102, co102, eo102⟩ := Kd.N_slice HO285.out
     (first | subst eo102 | (injection eo102 with f1_ f2_ f3_; have f4_ := f1_.symm; have f5_ := f3_.symm; clear f1_ f2_ f3_; subst f4_; subst f5_))
     refine hK.out _ _ ⟨BK194.out, (own_string (P := Try.prog) Try.underlying28 Try.underlying5 Try.underlying9 (Kd.own_of_R HO_11.out))⟩ (fun hHeld => ?_)
     clear hK K
     refine norm_ (a' := ?_) ?_ ?_
     rotate_left
     ·show Act.put _ (some 117) _ = _
      simp only [Act.put, sA, sZ, sS, i64_w, i32_w]
      rfl
     refine one_ (i := 37) (N := some 118) tq5 rfl rfl (one_of HT_.out (by kernel_rfl)) (by decide) (fun K hK => ?_)
     refine goes_ Try.func15 (by kernel_rfl) rfl #[.agg (tabC a0_0), .slice Ao102 y283.length co102] (by rfl) rfl rfl (by (try simp only [List.map_toArray, List.map_cons, List.map_nil]); first | done | rfl | (simp only [List.length_drop, List.length_take]; rfl)) ?_
     with_reducible refine (crc_Sum.calls kj14 a0_0 _ _ y283 t286 _ ?side1 ?side2 A84.out).mono ?_
     (case side1 => repeat (first | exact (Kd.N_reads' HO285.out).2.2 | (with_reducible refine Kd.C_alloc ?_ _) | (with_reducible refine Kd.C_drewN ?_ _) | (with_reducible refine Kd.C_drew ?_)))
     (case side2 => exact (Kd.N_reads' HO285.out).2.1)
     rintro e w103 ⟨rfl, hb⟩
     refine ⟨_, rfl, ?_⟩
     replace HO_1 := vB HO_1 hb
     replace HO_11 := rB HO_11 hb
     replace HO252 := vB HO252 hb
     replace HO257 := vB HO257 hb
     replace HO262 := vB HO262 hb
     replace HO276 := vB HO276 hb
     replace HO265 := nB HO265 hb
     replace HO279 := nB HO279 hb
     replace HO282 := rB HO282 hb
     replace HO285 := nB HO285 hb
     replace BK194 := bB BK194 hb
     replace HB := hB HB hb
     (try clear hb)
     (try clear hb2)
     (try clear hk)
     (try clear hi)
     refine hK.out _ _ ⟨BK194.out, (own_string (P := Try.prog) Try.underlying28 Try.underlying5 Try.underlying9 (Kd.own_of_R HO_11.out))⟩ (fun hHeld => ?_)
     clear hK K
     refine norm_ (a' := ?_) ?_ ?_
     rotate_left
     ·show Act.put _ (some 118) _ = _
      simp only [Act.put, sA, sZ, sS, i64_w, i32_w]
      rfl
     refine pure_ (i := 39) (N := some 120) (v := ?_) (a' := ?_) tq3 rfl rfl (any_of HT_.out (by kernel_rfl)) (fun _ _ _ h => h) (Or.inl ⟨by rfl, ?_⟩) ?_ ?_
     rotate_left
     ·intro w'
      go_simp
      with_reducible rfl
     rotate_left
     ·simp only [Act.put, sA, sZ, sS, i64_w, i32_w]
      rfl
     refine pure_ (i := 40) (N := some 121) (v := ?_) (a' := ?_) tq1 rfl rfl (any_of HT_.out (by kernel_rfl)) (fun _ _ _ h => h) (Or.inl ⟨by rfl, ?_⟩) ?_ ?_
     rotate_left
     ·intro w'
      go_simp
      with_reducible rfl
     rotate_left
     ·simp only [Act.put, sA, sZ, sS, i64_w, i32_w]
      rfl
     refine pure_ (i := 41) (N := some 8) (v := ?_) (a' := ?_) tq0 rfl rfl (any_of HT_.out (by kernel_rfl)) (fun _ _ _ h => h) (Or.inl ⟨by rfl, ?_⟩) ?_ ?_
     rotate_left
     ·intro w'
      go_simp
      with_reducible rfl
     rotate_left
     ·simp only [Act.put, sA, sZ, sS, i64_w, i32_w]
      rfl
     refine done_ (done_of HT_.out (by kernel_rfl)) ?_
     try go_wp2_with (first | ((with_reducible refine gate_load24 (x := .tmp _) rfl ?_); (try (refine gate_guard (by rfl) ?_; dsimp only)); refine tab_load rfl rfl rfl (Aside0.out (by assumption)) ?_) | ((with_reducible refine gate_load22 (x := .tmp _) rfl ?_); (try (refine gate_guard (by rfl) ?_; dsimp only)); refine tab_elem _ rfl rfl rfl (Aside0.out (by assumption)) (of_decide_eq_true (by first | (with_reducible assumption) | assumption)) (of_decide_eq_true (by first | (with_reducible assumption) | assumption)) ?_))
     go_ret
     exact ⟨by first | rfl | (simp [errW_none, errW_some] <;> rfl) | (simp [*, errW_none, errW_some] <;> rfl), by repeat (first | (with_reducible first | exact HB.out | apply below_alloc | apply pw_below_drewN | apply below_drew1 | refine below_set ?_ GE194.out) | exact HB.out)⟩

end Go.Proofs.Ytdoofhbapenhnaa.HCrcParts
