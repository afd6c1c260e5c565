-- Written by the session's program hy.py.
import Derived.Test.YtaonclkhjcbgoaaHLimitEnoughx0
import Derived.Test.YtaonclkhjcbgoaaHLimitEnoughx1
import Derived.Test.YtaonclkhjcbgoaaHLimitEnoughx2
import Derived.Test.YtaonclkhjcbgoaaHLimitEnoughx3
import Derived.Test.YtaonclkhjcbgoaaHLimitEnoughx4
namespace Go.Proofs.Ytaonclkhjcbgoaa.HLimitEnough
open Go.RowKit Go.Proofs.YtaonclkhjcbgoaaW.PrintWords Go.Proofs.YtaonclkhjcbgoaaW.PrintLast Go.Proofs.YtaonclkhjcbgoaaW.PrintMore
attribute [local go_sem] max2_int min2_int max_two min_two max_three min_three max_four min_four   -- for this text's walks alone
set_option linter.unusedVariables false
set_option linter.unusedSimpArgs false

attribute [local go_sem high] eqA23
/-! ### decklelaw19_LimitEnough: function 5 -/
mutual
def decklelaw19_LimitEnough.j0 : Nat → List (S31) → Int → Bool → Bool → Int → Int → Int → Int → Int → Option (Bool)
  | 0, _, _, _, _, _, _, _, _, _ => none
  | k + 1, x1, x2, x7, x26, x188000, x188001, x188002, x188003, x188004 => if x26 = true then (some x7) else (decklelaw19_LimitEnough.l0 k x1 x2 x7 0 x188000 x188001 x188002 x188003 x188004 0 x2 0 0 0)
def decklelaw19_LimitEnough.l0 : Nat → List (S31) → Int → Bool → Int → Int → Int → Int → Int → Int → Int → Int → Int → Int → Int → Option (Bool)
  | 0, _, _, _, _, _, _, _, _, _, _, _, _, _, _ => none
  | k + 1, x1, x2, x7, x9, x188000, x188001, x188002, x188003, x188004, x190000, x190001, x190002, x190003, x190004 => if x9 < (x1.length : Int) then (decklelaw19_LimitEnough.l1 k x1 x2 x7 x9 0 x188000 x188001 x188002 x188003 x188004 x190000 x190001 x190002 x190003 x190004) else ((limit_New.f x188000 x188001 x188002 x188003 x188004).bind fun bt200 => (decklelaw19_LimitEnough.l2 k x1 x2 x7 0 0 x188000 x188001 x188002 x188003 x188004 x190000 x190001 x190002 x190003 x190004 bt200.1 bt200.2.1 bt200.2.2.1 bt200.2.2.2.1 bt200.2.2.2.2.1 bt200.2.2.2.2.2.1 bt200.2.2.2.2.2.2.1 bt200.2.2.2.2.2.2.2.1 bt200.2.2.2.2.2.2.2.2.1 bt200.2.2.2.2.2.2.2.2.2.1 bt200.2.2.2.2.2.2.2.2.2.2))
def decklelaw19_LimitEnough.l1 : Nat → List (S31) → Int → Bool → Int → Int → Int → Int → Int → Int → Int → Int → Int → Int → Int → Int → Option (Bool)
  | 0, _, _, _, _, _, _, _, _, _, _, _, _, _, _, _ => none
  | k + 1, x1, x2, x7, x9, x10, x188000, x188001, x188002, x188003, x188004, x190000, x190001, x190002, x190003, x190004 => if x10 < 3 then (if x10 = 0 then (if 0 ≤ x9 then (if x9 < (x1.length : Int) then (if ((rd_T31 x1 x9).f0) < 0 then (some x7) else (if ((rd_T31 x1 x9).f0) > 1000000 then (some x7) else (decklelaw19_LimitEnough.l1 k x1 x2 x7 x9 (wrap64 (x10 + 1)) x188000 x188001 x188002 x188003 x188004 x190000 x190001 x190002 x190003 x190004))) else (none)) else (none)) else (if x10 = 1 then (if 0 ≤ x9 then (if x9 < (x1.length : Int) then (if ((rd_T31 x1 x9).f1) < 0 then (some x7) else (if ((rd_T31 x1 x9).f1) > 1000000 then (some x7) else (decklelaw19_LimitEnough.l1 k x1 x2 x7 x9 (wrap64 (x10 + 1)) x188000 x188001 x188002 x188003 x188004 x190000 x190001 x190002 x190003 x190004))) else (none)) else (none)) else (if x10 = 2 then (if 0 ≤ x9 then (if x9 < (x1.length : Int) then (if ((rd_T31 x1 x9).f2) < 0 then (some x7) else (if ((rd_T31 x1 x9).f2) > 1000000 then (some x7) else (decklelaw19_LimitEnough.l1 k x1 x2 x7 x9 (wrap64 (x10 + 1)) x188000 x188001 x188002 x188003 x188004 x190000 x190001 x190002 x190003 x190004))) else (none)) else (none)) else (if 0 ≤ (-1) then (if (-1) < (x1.length : Int) then (decklelaw19_LimitEnough.l1 k x1 x2 x7 x9 (wrap64 (x10 + 1)) x188000 x188001 x188002 x188003 x188004 x190000 x190001 x190002 x190003 x190004) else (none)) else (none))))) else (if 0 ≤ x9 then (if x9 < (x1.length : Int) then (decklelaw19_LimitEnough.l0 k x1 x2 x7 (wrap64 (x9 + 1)) x188000 x188001 x188002 x188003 x188004 x190000 x190001 (mx x190002 ((rd_T31 x1 x9).f0)) (mx x190003 ((rd_T31 x1 x9).f1)) (wrap64 (x190004 + ((rd_T31 x1 x9).f2)))) else (none)) else (none))
def decklelaw19_LimitEnough.l2 : Nat → List (S31) → Int → Bool → Int → Int → Int → Int → Int → Int → Int → Int → Int → Int → Int → Int → Int → Int → Int → Int → Int → Int → Int → Int → Int → Int → Int → Option (Bool)
  | 0, _, _, _, _, _, _, _, _, _, _, _, _, _, _, _, _, _, _, _, _, _, _, _, _, _, _ => none
  | k + 1, x1, x2, x7, x12, x13, x188000, x188001, x188002, x188003, x188004, x190000, x190001, x190002, x190003, x190004, x212000, x212001, x212002, x212003, x212004, x212005, x212006, x212007, x212008, x212009, x212010 => if x13 < x2 then ((limit_Meter_Object.f x212000 x212001 x212002 x212003 x212004 x212005 x212006 x212007 x212008 x212009 x212010).bind fun bt212 => (decklelaw19_LimitEnough.l2 k x1 x2 x7 bt212.1 (wrap64 (x13 + 1)) x188000 x188001 x188002 x188003 x188004 x190000 x190001 x190002 x190003 x190004 bt212.2.1 bt212.2.2.1 bt212.2.2.2.1 bt212.2.2.2.2.1 bt212.2.2.2.2.2.1 bt212.2.2.2.2.2.2.1 bt212.2.2.2.2.2.2.2.1 bt212.2.2.2.2.2.2.2.2.1 bt212.2.2.2.2.2.2.2.2.2.1 bt212.2.2.2.2.2.2.2.2.2.2.1 bt212.2.2.2.2.2.2.2.2.2.2.2)) else ((limit_Meter_Nodes.f k x212000 x212001 x212002 x212003 x212004 x212005 x212006 x212007 x212008 x212009 x212010 x1).bind fun bt224 => ((limit_Admits.f x188000 x188001 x188002 x188003 x188004 x190000 x190001 x190002 x190003 x190004).bind fun t236 => (if t236 = true then (if x7 = true then (if x12 = 0 then (if bt224.1 = 0 then ((limit_tally_Used.f bt224.2.1 bt224.2.2.1 bt224.2.2.2.1 bt224.2.2.2.2.1 bt224.2.2.2.2.2.1 bt224.2.2.2.2.2.2.1 bt224.2.2.2.2.2.2.2.1 bt224.2.2.2.2.2.2.2.2.1 bt224.2.2.2.2.2.2.2.2.2.1 bt224.2.2.2.2.2.2.2.2.2.2.1 bt224.2.2.2.2.2.2.2.2.2.2.2).bind fun bt237 => (if (bt237.1 == x190000 && (bt237.2.1 == x190001 && (bt237.2.2.1 == x190002 && (bt237.2.2.2.1 == x190003 && (bt237.2.2.2.2.1 == x190004))))) = true then ((limit_tally_Over.f bt237.2.2.2.2.2.1 bt237.2.2.2.2.2.2.1 bt237.2.2.2.2.2.2.2.1 bt237.2.2.2.2.2.2.2.2.1 bt237.2.2.2.2.2.2.2.2.2.1 bt237.2.2.2.2.2.2.2.2.2.2.1 bt237.2.2.2.2.2.2.2.2.2.2.2.1 bt237.2.2.2.2.2.2.2.2.2.2.2.2.1 bt237.2.2.2.2.2.2.2.2.2.2.2.2.2.1 bt237.2.2.2.2.2.2.2.2.2.2.2.2.2.2.1 bt237.2.2.2.2.2.2.2.2.2.2.2.2.2.2.2).bind fun bt253 => (some (bt253.1 == 0))) else (none))) else (none)) else (none)) else (none)) else (if x7 = true then ((limit_tally_Over.f bt224.2.1 bt224.2.2.1 bt224.2.2.2.1 bt224.2.2.2.2.1 bt224.2.2.2.2.2.1 bt224.2.2.2.2.2.2.1 bt224.2.2.2.2.2.2.2.1 bt224.2.2.2.2.2.2.2.2.1 bt224.2.2.2.2.2.2.2.2.2.1 bt224.2.2.2.2.2.2.2.2.2.2.1 bt224.2.2.2.2.2.2.2.2.2.2.2).bind fun bt265 => (if bt265.1 = 0 then (none) else ((limit_tally_Used.f bt265.2.1 bt265.2.2.1 bt265.2.2.2.1 bt265.2.2.2.2.1 bt265.2.2.2.2.2.1 bt265.2.2.2.2.2.2.1 bt265.2.2.2.2.2.2.2.1 bt265.2.2.2.2.2.2.2.2.1 bt265.2.2.2.2.2.2.2.2.2.1 bt265.2.2.2.2.2.2.2.2.2.2.1 bt265.2.2.2.2.2.2.2.2.2.2.2).bind fun bt277 => (some (!(bt277.1 == x190000) || (!(bt277.2.1 == x190001) || (!(bt277.2.2.1 == x190002) || (!(bt277.2.2.2.1 == x190003) || (!(bt277.2.2.2.2.1 == x190004)))))))))) else (none)))))
end
def decklelaw19_LimitEnough.f (k : Nat) (a0_0 : Int) (a0_1 : Int) (a0_2 : Int) (a0_3 : Int) (a0_4 : Int) (l1 : List (S31)) (a2 : Int) : Option (Bool) := (decklelaw19_small.f).bind fun t188 => (if (l1.length : Int) > 50 then (decklelaw19_LimitEnough.j0 k l1 a2 t188 true a0_0 a0_1 a0_2 a0_3 a0_4) else (if a2 < 0 then (decklelaw19_LimitEnough.j0 k l1 a2 t188 true a0_0 a0_1 a0_2 a0_3 a0_4) else (decklelaw19_LimitEnough.j0 k l1 a2 t188 (decide (a2 > 50)) a0_0 a0_1 a0_2 a0_3 a0_4)))
theorem decklelaw19_LimitEnough.mono_l : ∀ k, (∀ y0 y1 y2 y3 y4 y5 y6 y7 y8, LeO (decklelaw19_LimitEnough.j0 k y0 y1 y2 y3 y4 y5 y6 y7 y8) (decklelaw19_LimitEnough.j0 (k + 1) y0 y1 y2 y3 y4 y5 y6 y7 y8)) ∧ (∀ y0 y1 y2 y3 y4 y5 y6 y7 y8 y9 y10 y11 y12 y13, LeO (decklelaw19_LimitEnough.l0 k y0 y1 y2 y3 y4 y5 y6 y7 y8 y9 y10 y11 y12 y13) (decklelaw19_LimitEnough.l0 (k + 1) y0 y1 y2 y3 y4 y5 y6 y7 y8 y9 y10 y11 y12 y13)) ∧ (∀ y0 y1 y2 y3 y4 y5 y6 y7 y8 y9 y10 y11 y12 y13 y14, LeO (decklelaw19_LimitEnough.l1 k y0 y1 y2 y3 y4 y5 y6 y7 y8 y9 y10 y11 y12 y13 y14) (decklelaw19_LimitEnough.l1 (k + 1) y0 y1 y2 y3 y4 y5 y6 y7 y8 y9 y10 y11 y12 y13 y14)) ∧ (∀ y0 y1 y2 y3 y4 y5 y6 y7 y8 y9 y10 y11 y12 y13 y14 y15 y16 y17 y18 y19 y20 y21 y22 y23 y24 y25, LeO (decklelaw19_LimitEnough.l2 k y0 y1 y2 y3 y4 y5 y6 y7 y8 y9 y10 y11 y12 y13 y14 y15 y16 y17 y18 y19 y20 y21 y22 y23 y24 y25) (decklelaw19_LimitEnough.l2 (k + 1) y0 y1 y2 y3 y4 y5 y6 y7 y8 y9 y10 y11 y12 y13 y14 y15 y16 y17 y18 y19 y20 y21 y22 y23 y24 y25))
  | 0 => ⟨fun _ _ _ _ _ _ _ _ _ r h => by simp [decklelaw19_LimitEnough.j0] at h, fun _ _ _ _ _ _ _ _ _ _ _ _ _ _ r h => by simp [decklelaw19_LimitEnough.l0] at h, fun _ _ _ _ _ _ _ _ _ _ _ _ _ _ _ r h => by simp [decklelaw19_LimitEnough.l1] at h, fun _ _ _ _ _ _ _ _ _ _ _ _ _ _ _ _ _ _ _ _ _ _ _ _ _ _ r h => by simp [decklelaw19_LimitEnough.l2] at h⟩
  | k + 1 => by
    obtain ⟨ih0, ih1, ih2, ih3⟩ := decklelaw19_LimitEnough.mono_l k
    refine ⟨?_, ?_, ?_, ?_⟩
    · intro y0 y1 y2 y3 y4 y5 y6 y7 y8
      unfold decklelaw19_LimitEnough.j0
      repeat' first
      | (with_reducible exact ih0 _ _ _ _ _ _ _ _ _)
      | (with_reducible exact ih1 _ _ _ _ _ _ _ _ _ _ _ _ _ _)
      | (with_reducible exact ih2 _ _ _ _ _ _ _ _ _ _ _ _ _ _ _)
      | (with_reducible exact ih3 _ _ _ _ _ _ _ _ _ _ _ _ _ _ _ _ _ _ _ _ _ _ _ _ _ _)
      | (with_reducible exact limit_Meter_Nodes.mono _ _ _ _ _ _ _ _ _ _ _ _ _)
      | (with_reducible exact LeO.refl _)
      | (with_reducible exact LeO.none _)
      | (with_reducible refine LeO.ite ?_ ?_)
      | (with_reducible refine LeO.bind ?_ (fun _ => ?_))
      | exact ih0 _ _ _ _ _ _ _ _ _
      | exact ih1 _ _ _ _ _ _ _ _ _ _ _ _ _ _
      | exact ih2 _ _ _ _ _ _ _ _ _ _ _ _ _ _ _
      | exact ih3 _ _ _ _ _ _ _ _ _ _ _ _ _ _ _ _ _ _ _ _ _ _ _ _ _ _
      | exact limit_Meter_Nodes.mono _ _ _ _ _ _ _ _ _ _ _ _ _
      | exact LeO.none _
      | refine LeO.ite ?_ ?_
      | refine LeO.bind ?_ (fun _ => ?_)
    · intro y0 y1 y2 y3 y4 y5 y6 y7 y8 y9 y10 y11 y12 y13
      unfold decklelaw19_LimitEnough.l0
      repeat' first
      | (with_reducible exact ih0 _ _ _ _ _ _ _ _ _)
      | (with_reducible exact ih1 _ _ _ _ _ _ _ _ _ _ _ _ _ _)
      | (with_reducible exact ih2 _ _ _ _ _ _ _ _ _ _ _ _ _ _ _)
      | (with_reducible exact ih3 _ _ _ _ _ _ _ _ _ _ _ _ _ _ _ _ _ _ _ _ _ _ _ _ _ _)
      | (with_reducible exact limit_Meter_Nodes.mono _ _ _ _ _ _ _ _ _ _ _ _ _)
      | (with_reducible exact LeO.refl _)
      | (with_reducible exact LeO.none _)
      | (with_reducible refine LeO.ite ?_ ?_)
      | (with_reducible refine LeO.bind ?_ (fun _ => ?_))
      | exact ih0 _ _ _ _ _ _ _ _ _
      | exact ih1 _ _ _ _ _ _ _ _ _ _ _ _ _ _
      | exact ih2 _ _ _ _ _ _ _ _ _ _ _ _ _ _ _
      | exact ih3 _ _ _ _ _ _ _ _ _ _ _ _ _ _ _ _ _ _ _ _ _ _ _ _ _ _
      | exact limit_Meter_Nodes.mono _ _ _ _ _ _ _ _ _ _ _ _ _
      | exact LeO.none _
      | refine LeO.ite ?_ ?_
      | refine LeO.bind ?_ (fun _ => ?_)
    · intro y0 y1 y2 y3 y4 y5 y6 y7 y8 y9 y10 y11 y12 y13 y14
      unfold decklelaw19_LimitEnough.l1
      repeat' first
      | (with_reducible exact ih0 _ _ _ _ _ _ _ _ _)
      | (with_reducible exact ih1 _ _ _ _ _ _ _ _ _ _ _ _ _ _)
      | (with_reducible exact ih2 _ _ _ _ _ _ _ _ _ _ _ _ _ _ _)
      | (with_reducible exact ih3 _ _ _ _ _ _ _ _ _ _ _ _ _ _ _ _ _ _ _ _ _ _ _ _ _ _)
      | (with_reducible exact limit_Meter_Nodes.mono _ _ _ _ _ _ _ _ _ _ _ _ _)
      | (with_reducible exact LeO.refl _)
      | (with_reducible exact LeO.none _)
      | (with_reducible refine LeO.ite ?_ ?_)
      | (with_reducible refine LeO.bind ?_ (fun _ => ?_))
      | exact ih0 _ _ _ _ _ _ _ _ _
      | exact ih1 _ _ _ _ _ _ _ _ _ _ _ _ _ _
      | exact ih2 _ _ _ _ _ _ _ _ _ _ _ _ _ _ _
      | exact ih3 _ _ _ _ _ _ _ _ _ _ _ _ _ _ _ _ _ _ _ _ _ _ _ _ _ _
      | exact limit_Meter_Nodes.mono _ _ _ _ _ _ _ _ _ _ _ _ _
      | exact LeO.none _
      | refine LeO.ite ?_ ?_
      | refine LeO.bind ?_ (fun _ => ?_)
    · intro y0 y1 y2 y3 y4 y5 y6 y7 y8 y9 y10 y11 y12 y13 y14 y15 y16 y17 y18 y19 y20 y21 y22 y23 y24 y25
      unfold decklelaw19_LimitEnough.l2
      repeat' first
      | (with_reducible exact ih0 _ _ _ _ _ _ _ _ _)
      | (with_reducible exact ih1 _ _ _ _ _ _ _ _ _ _ _ _ _ _)
      | (with_reducible exact ih2 _ _ _ _ _ _ _ _ _ _ _ _ _ _ _)
      | (with_reducible exact ih3 _ _ _ _ _ _ _ _ _ _ _ _ _ _ _ _ _ _ _ _ _ _ _ _ _ _)
      | (with_reducible exact limit_Meter_Nodes.mono _ _ _ _ _ _ _ _ _ _ _ _ _)
      | (with_reducible exact LeO.refl _)
      | (with_reducible exact LeO.none _)
      | (with_reducible refine LeO.ite ?_ ?_)
      | (with_reducible refine LeO.bind ?_ (fun _ => ?_))
      | exact ih0 _ _ _ _ _ _ _ _ _
      | exact ih1 _ _ _ _ _ _ _ _ _ _ _ _ _ _
      | exact ih2 _ _ _ _ _ _ _ _ _ _ _ _ _ _ _
      | exact ih3 _ _ _ _ _ _ _ _ _ _ _ _ _ _ _ _ _ _ _ _ _ _ _ _ _ _
      | exact limit_Meter_Nodes.mono _ _ _ _ _ _ _ _ _ _ _ _ _
      | exact LeO.none _
      | refine LeO.ite ?_ ?_
      | refine LeO.bind ?_ (fun _ => ?_)
theorem decklelaw19_LimitEnough.mono : ∀ a0 a1 a2 a3 a4 a5 a6 k, LeO (decklelaw19_LimitEnough.f k a0 a1 a2 a3 a4 a5 a6) (decklelaw19_LimitEnough.f (k + 1) a0 a1 a2 a3 a4 a5 a6) := by
  intro a0 a1 a2 a3 a4 a5 a6 k
  obtain ⟨ih0, ih1, ih2, ih3⟩ := decklelaw19_LimitEnough.mono_l k
  unfold decklelaw19_LimitEnough.f
  repeat' first
      | (with_reducible exact ih0 _ _ _ _ _ _ _ _ _)
      | (with_reducible exact ih1 _ _ _ _ _ _ _ _ _ _ _ _ _ _)
      | (with_reducible exact ih2 _ _ _ _ _ _ _ _ _ _ _ _ _ _ _)
      | (with_reducible exact ih3 _ _ _ _ _ _ _ _ _ _ _ _ _ _ _ _ _ _ _ _ _ _ _ _ _ _)
      | (with_reducible exact limit_Meter_Nodes.mono _ _ _ _ _ _ _ _ _ _ _ _ _)
      | (with_reducible exact LeO.refl _)
      | (with_reducible exact LeO.none _)
      | (with_reducible refine LeO.ite ?_ ?_)
      | (with_reducible refine LeO.bind ?_ (fun _ => ?_))
      | exact ih0 _ _ _ _ _ _ _ _ _
      | exact ih1 _ _ _ _ _ _ _ _ _ _ _ _ _ _
      | exact ih2 _ _ _ _ _ _ _ _ _ _ _ _ _ _ _
      | exact ih3 _ _ _ _ _ _ _ _ _ _ _ _ _ _ _ _ _ _ _ _ _ _ _ _ _ _
      | exact limit_Meter_Nodes.mono _ _ _ _ _ _ _ _ _ _ _ _ _
      | exact LeO.none _
      | refine LeO.ite ?_ ?_
      | refine LeO.bind ?_ (fun _ => ?_)
def decklelaw19_LimitEnough.T13 : Bool × List (List Nat × List Nat) := (true, [([], []), ([0], [0]), ([], []), ([], []), ([2, 3], [2, 3]), ([4], [4]), ([5], [5]), ([1, 6], [1, 6]), ([0, 1, 2, 3, 4, 5, 6, 7], []), ([8, 7, 0, 1, 2, 3, 4, 5, 6, 7], [7, 8])])
def decklelaw19_LimitEnough.B13 : List Nat := [0, 1, 0, 0, 12, 28, 60, 127, 255, 511]
theorem decklelaw19_LimitEnough.tab13 : rtab .any (opsOf Try.f5 13) = decklelaw19_LimitEnough.T13 := by kernel_rfl
theorem decklelaw19_LimitEnough.bits13 : waitsOk decklelaw19_LimitEnough.T13.2 decklelaw19_LimitEnough.B13 = true := by kernel_rfl
def decklelaw19_LimitEnough.T14 : Bool × List (List Nat × List Nat) := (true, [([], []), ([0], [0]), ([], []), ([], []), ([2, 3], [2, 3]), ([4], [4]), ([5], [5]), ([1, 6], [1, 6]), ([0, 1, 2, 3, 4, 5, 6, 7], []), ([8, 7, 0, 1, 2, 3, 4, 5, 6, 7], [7, 8])])
def decklelaw19_LimitEnough.B14 : List Nat := [0, 1, 0, 0, 12, 28, 60, 127, 255, 511]
theorem decklelaw19_LimitEnough.tab14 : rtab .any (opsOf Try.f5 14) = decklelaw19_LimitEnough.T14 := by kernel_rfl
theorem decklelaw19_LimitEnough.bits14 : waitsOk decklelaw19_LimitEnough.T14.2 decklelaw19_LimitEnough.B14 = true := by kernel_rfl
def decklelaw19_LimitEnough.T15 : Bool × List (List Nat × List Nat) := (true, [([], []), ([0], [0]), ([], []), ([], []), ([2, 3], [2, 3]), ([4], [4]), ([5], [5]), ([1, 6], [1, 6]), ([0, 1, 2, 3, 4, 5, 6, 7], []), ([8, 7, 0, 1, 2, 3, 4, 5, 6, 7], [7, 8])])
def decklelaw19_LimitEnough.B15 : List Nat := [0, 1, 0, 0, 12, 28, 60, 127, 255, 511]
theorem decklelaw19_LimitEnough.tab15 : rtab .any (opsOf Try.f5 15) = decklelaw19_LimitEnough.T15 := by kernel_rfl
theorem decklelaw19_LimitEnough.bits15 : waitsOk decklelaw19_LimitEnough.T15.2 decklelaw19_LimitEnough.B15 = true := by kernel_rfl
def decklelaw19_LimitEnough.T26 : Bool × List (List Nat × List Nat) := (true, [([], []), ([0], [0]), ([1], [1]), ([2, 1], [1, 2]), ([1, 3], [1, 3]), ([4, 1], [4]), ([5], [5]), ([6, 5], [5, 6]), ([5, 7], [5, 7]), ([8, 5], [8]), ([9], [9]), ([10, 9], [9, 10]), ([11, 9], [9, 11]), ([12, 9, 9], [9, 12]), ([9], [9]), ([13, 14, 9], [9, 13, 14]), ([9, 15], [9, 15]), ([16, 13], [16]), ([17], [17]), ([18, 17], [17, 18]), ([19, 17], [17, 19]), ([20, 17, 17], [17, 20]), ([21, 17], [17, 21]), ([17, 22], [17, 22]), ([23, 21, 0, 1, 2, 3, 4, 5, 6, 7, 8, 9, 10, 11, 12, 13, 14, 15, 16, 17, 18, 19, 20, 21, 22, 23], [23])])
def decklelaw19_LimitEnough.B26 : List Nat := [0, 1, 3, 7, 15, 31, 63, 127, 255, 511, 1023, 2047, 4095, 8191, 1023, 32767, 65535, 131071, 262143, 524287, 1048575, 2097151, 4194303, 8388607, 16777215]
theorem decklelaw19_LimitEnough.tab26 : rtab .any (opsOf Try.f5 26) = decklelaw19_LimitEnough.T26 := by kernel_rfl
theorem decklelaw19_LimitEnough.bits26 : waitsOk decklelaw19_LimitEnough.T26.2 decklelaw19_LimitEnough.B26 = true := by kernel_rfl
def decklelaw19_LimitEnough.T27 : Bool × List (List Nat × List Nat) := (true, [([], []), ([0], [0]), ([1], [1]), ([2, 1], [1, 2]), ([3, 1], [1, 3]), ([4, 1, 1], [1, 4]), ([5, 1], [1, 5]), ([1, 6], [1, 6]), ([7, 5], [7]), ([8], [8]), ([9, 8], [8, 9]), ([10, 8], [8, 10]), ([11, 8, 8], [8, 11]), ([8], [8]), ([12, 13, 8], [8, 12, 13]), ([8, 14], [8, 14]), ([15, 12, 0, 1, 2, 3, 4, 5, 6, 7, 8, 9, 10, 11, 12, 13, 14, 15], [15])])
def decklelaw19_LimitEnough.B27 : List Nat := [0, 1, 3, 7, 15, 31, 63, 127, 255, 511, 1023, 2047, 4095, 511, 16383, 32767, 65535]
theorem decklelaw19_LimitEnough.tab27 : rtab .any (opsOf Try.f5 27) = decklelaw19_LimitEnough.T27 := by kernel_rfl
theorem decklelaw19_LimitEnough.bits27 : waitsOk decklelaw19_LimitEnough.T27.2 decklelaw19_LimitEnough.B27 = true := by kernel_rfl
set_option maxHeartbeats 8000000 in
set_option maxRecDepth 100000 in
theorem decklelaw19_LimitEnough.calls (k : Nat) (a0_0 : Int) (a0_1 : Int) (a0_2 : Int) (a0_3 : Int) (a0_4 : Int) (A1 : Option Addr) (c1 : Nat) (l1 : List (S31)) (a2 : Int) (r : Bool) (w : World) (hr1 : Kd.C k31 w A1 l1.length l1) (hc1 : l1.length ≤ c1) (h : decklelaw19_LimitEnough.f k a0_0 a0_1 a0_2 a0_3 a0_4 l1 a2 = some r) :
    Calls Try.prog 5 #[.agg #[.int .i64 a0_0, .int .i64 a0_1, .int .i64 a0_2, .int .i64 a0_3, .int .i64 a0_4], .slice A1 l1.length c1, .int .i64 a2] w fun e w' => e = .returned (.bool r) ∧ Below w.heap.size w w' := by
  have hu23 := Try.underlying23
  have HR1 := Aside0.mk hr1
  have HC1 := Aside0.mk hc1
  clear hr1 hc1
  have HB := Aside0.mk (Below.refl w.heap.size w)
  have H : ((decklelaw19_small.f).bind fun t188 => (if (l1.length : Int) > 50 then (decklelaw19_LimitEnough.j0 k l1 a2 t188 true a0_0 a0_1 a0_2 a0_3 a0_4) else (if a2 < 0 then (decklelaw19_LimitEnough.j0 k l1 a2 t188 true a0_0 a0_1 a0_2 a0_3 a0_4) else (decklelaw19_LimitEnough.j0 k l1 a2 t188 (decide (a2 > 50)) a0_0 a0_1 a0_2 a0_3 a0_4)))) = some r := h
  clear h
  replace H := Option.bind_eq_some_iff.mp H
  obtain ⟨t188, A40, H⟩ := H
  replace H : (if (l1.length : Int) > 50 then (decklelaw19_LimitEnough.j0 k l1 a2 t188 true a0_0 a0_1 a0_2 a0_3 a0_4) else (if a2 < 0 then (decklelaw19_LimitEnough.j0 k l1 a2 t188 true a0_0 a0_1 a0_2 a0_3 a0_4) else (decklelaw19_LimitEnough.j0 k l1 a2 t188 (decide (a2 > 50)) a0_0 a0_1 a0_2 a0_3 a0_4))) = some r := H
  have A4 := Aside0.mk A40
  clear A40
  have HC5 := Aside0.mk H
  clear H
  go_enter Try.func5, Try.ntmps5
  go_upto_region 2 with (first | ((with_reducible refine gate_dst (N := 3) rfl ?_); refine box_event ?hg (N := 3) ?hd (cs := #[.int .i64 a0_0, .int .i64 a0_1, .int .i64 a0_2, .int .i64 a0_3, .int .i64 a0_4]) (t := 23) ?hr ?_; (case hd => rfl); (case hg => rfl); (case hr => first | (go_simp; done) | (go_simp; rfl)); intro gb187 hg w6 hbox hb; have n0_ := Aside0.mk (below_step (by repeat (first | (with_reducible first | exact HB.out | apply below_alloc | apply pw_below_drewN | apply below_drew1) | exact HB.out)) hb); have n1_ := Aside0.mk (hbox); have n2_ := Aside0.mk ((by rw [hg]; exact (below_size (by repeat (first | (with_reducible first | exact HB.out | apply below_alloc | apply pw_below_drewN | apply below_drew1) | exact HB.out))) : w.heap.size ≤ gb187)); have n3_ := Aside0.mk ((by rw [hg]; exact (below_size (by repeat (first | (with_reducible first | exact HB.out | apply below_alloc | apply pw_below_drewN | apply below_drew1) | exact HB.out))) : w.heap.size ≤ gb187)); clear HB; have HB := n0_; have BK187 := n1_; have GW187 := n2_; have GE187 := n3_; clear n0_ n1_ n2_ n3_; clear hb hbox hg) | ((with_reducible refine gate_callee (f := 7) rfl ?_); refine goesL_ (some 15) rfl rfl Try.func7 (by kernel_rfl) rfl #[] rfl (by (try simp only [List.map_toArray, List.map_cons, List.map_nil]); first | done | rfl | (simp only [List.length_drop, List.length_take]; rfl)) ?_; (with_reducible refine (decklelaw19_small.calls  t188 _ A4.out).mono ?_); rintro e w7 ⟨rfl, hb⟩; refine ⟨_, rfl, ?_⟩; have n0_ := Aside0.mk (blk_below (g := gb187) (o := .cells #[.int .i64 a0_0, .int .i64 a0_1, .int .i64 a0_2, .int .i64 a0_3, .int .i64 a0_4] 23 (0, 0)) (by (with_reducible repeat (first | refine blk_drewN ?_ _ | refine blk_drew ?_ | refine blk_alloc ?_ _)); exact BK187.out) hb); have n1_ := Aside0.mk (below_step (by repeat (first | (with_reducible first | exact HB.out | apply below_alloc | apply pw_below_drewN | apply below_drew1 | refine below_set ?_ GE187.out) | exact HB.out)) hb); clear BK187; clear HB; have BK187 := n0_; have HB := n1_; clear n0_ n1_; (try clear hb); (try clear hb2); (try clear hk); (try clear hi)))
  (try simp only [Act.put, List.setIfInBounds_toArray, List.set_cons_zero, List.set_cons_succ])
  go_cut [26] (fun v26 wc => ∃ (kq : Nat) (x26_4 : Bool), v26 = .bool x26_4 ∧ Aside0 (decklelaw19_LimitEnough.j0 kq l1 a2 t188 x26_4 a0_0 a0_1 a0_2 a0_3 a0_4 = some r) ∧ Aside0 (kq ≤ k) ∧ Aside0 (wc.heap[gb187]? = some (.cells #[.int .i64 a0_0, .int .i64 a0_1, .int .i64 a0_2, .int .i64 a0_3, .int .i64 a0_4] 23 (0, 0))) ∧ Aside0 (Below w.heap.size w wc))
  case first =>
    have H := HC5.out
    clear HC5
    by_cases c8 : (l1.length : Int) > 50
    · rw [if_pos c8] at H
      have c8b0 : decide (50 < (l1.length : Int)) = true := decide_eq_true c8
      have c8b1 : decide (50 < l1.length) = true := decide_eq_true (by omega)
      clear c8
      (first | rw [c8b0] | (simp only [i64_w, i32_w]; rw [c8b0]) | skip)
      have H' := Aside0.mk H
      clear H
      go_wp2
      go_meet
      case rel => exact ⟨_, (true), (by first | rfl | (simp; done) | (simp [*]; done)), H', ⟨by first | omega | exact Nat.le_refl _⟩, ⟨by (with_reducible repeat (first | refine blk_drewN ?_ _ | refine blk_drew ?_ | refine blk_alloc ?_ _)); exact BK187.out⟩, ⟨by repeat (first | (with_reducible first | exact HB.out | apply below_alloc | apply pw_below_drewN | apply below_drew1 | refine below_set ?_ GE187.out) | exact HB.out)⟩⟩
    · rw [if_neg c8] at H
      have c8b0 : decide (50 < (l1.length : Int)) = false := decide_eq_false c8
      have c8b1 : decide (50 < l1.length) = false := decide_eq_false (by omega)
      clear c8
      (first | rw [c8b0] | (simp only [i64_w, i32_w]; rw [c8b0]) | skip)
      by_cases c9 : a2 < 0
      · rw [if_pos c9] at H
        have c9b0 : decide (a2 < 0) = true := decide_eq_true c9
        clear c9
        have H' := Aside0.mk H
        clear H
        go_wp2
        go_meet
        case rel => exact ⟨_, (true), (by first | rfl | (simp; done) | (simp [*]; done)), H', ⟨by first | omega | exact Nat.le_refl _⟩, ⟨by (with_reducible repeat (first | refine blk_drewN ?_ _ | refine blk_drew ?_ | refine blk_alloc ?_ _)); exact BK187.out⟩, ⟨by repeat (first | (with_reducible first | exact HB.out | apply below_alloc | apply pw_below_drewN | apply below_drew1 | refine below_set ?_ GE187.out) | exact HB.out)⟩⟩
      · rw [if_neg c9] at H
        have c9b0 : decide (a2 < 0) = false := decide_eq_false c9
        clear c9
        have H' := Aside0.mk H
        clear H
        go_wp2
        go_meet
        case rel => exact ⟨_, (decide (a2 > 50)), (by first | rfl | (simp; done) | (simp [*]; done)), H', ⟨by first | omega | exact Nat.le_refl _⟩, ⟨by (with_reducible repeat (first | refine blk_drewN ?_ _ | refine blk_drew ?_ | refine blk_alloc ?_ _)); exact BK187.out⟩, ⟨by repeat (first | (with_reducible first | exact HB.out | apply below_alloc | apply pw_below_drewN | apply below_drew1 | refine below_set ?_ GE187.out) | exact HB.out)⟩⟩
  case rest =>
    clear HC5
    try clear c1
    try clear p2
    try clear c5
    try clear c7
    try clear c8
    try clear c8b0
    try clear c8b1
    try clear c9
    try clear c9b0
    obtain ⟨kq, x26_4, rfl, HA, HJ4, BK187, HB⟩ := hcut
    cases kq with
    | zero => exact absurd HA.out (by simp [decklelaw19_LimitEnough.j0])
    | succ kj4 =>
      have H := HA.out
      clear HA
      simp only [decklelaw19_LimitEnough.j0] at H
      by_cases c10 : x26_4 = true
      · subst c10
        have H1 : (some t188) = some r := by rw [if_pos rfl] at H; exact H
        clear H
        have H := H1
        clear H1
        obtain rfl := Option.some.inj H
        go_wp2
        go_ret
        exact ⟨by first | rfl | (simp [errW_none, errW_some] <;> rfl) | (simp [*, errW_none, errW_some] <;> rfl), by repeat (first | (with_reducible first | exact HB.out | apply below_alloc | apply pw_below_drewN | apply below_drew1 | refine below_set ?_ GE187.out) | exact HB.out)⟩
      · replace c10 := Bool.eq_false_iff.mpr c10
        subst c10
        have H1 : (decklelaw19_LimitEnough.l0 kj4 l1 a2 t188 0 a0_0 a0_1 a0_2 a0_3 a0_4 0 a2 0 0 0) = some r := by rw [if_neg (show ¬ (false = true) by decide)] at H; exact H
        clear H
        have H := H1
        clear H1
        have H' := Aside0.mk H
        clear H
        go_wp2_with (first | ((with_reducible refine gate_dst (N := 8) rfl ?_); refine box_event ?hg (N := 8) ?hd (cs := #[.int .i64 0, .int .i64 0, .int .i64 0, .int .i64 0, .int .i64 0]) (t := 23) ?hr ?_; (case hd => rfl); (case hg => rfl); (case hr => first | (go_simp; done) | (go_simp; rfl)); intro gb189 hg w11 hbox hb; have n0_ := Aside0.mk (blk_below (g := gb187) (o := .cells #[.int .i64 a0_0, .int .i64 a0_1, .int .i64 a0_2, .int .i64 a0_3, .int .i64 a0_4] 23 (0, 0)) (by (with_reducible repeat (first | refine blk_drewN ?_ _ | refine blk_drew ?_ | refine blk_alloc ?_ _)); exact BK187.out) hb); have n1_ := Aside0.mk (below_step (by repeat (first | (with_reducible first | exact HB.out | apply below_alloc | apply pw_below_drewN | apply below_drew1 | refine below_set ?_ GE187.out) | exact HB.out)) hb); have n2_ := Aside0.mk (hbox); have n3_ := Aside0.mk ((by rw [hg]; exact (below_size (by repeat (first | (with_reducible first | exact HB.out | apply below_alloc | apply pw_below_drewN | apply below_drew1 | refine below_set ?_ GE187.out) | exact HB.out))) : w.heap.size ≤ gb189)); have n4_ := Aside0.mk ((by rw [hg]; exact (below_size (by repeat (first | (with_reducible first | exact HB.out | apply below_alloc | apply pw_below_drewN | apply below_drew1 | refine below_set ?_ GE187.out) | exact HB.out))) : w.heap.size ≤ gb189)); have n5_ := Aside0.mk ((by rw [hg]; exact Nat.ne_of_lt (blk_lt (g := gb187) (o := .cells #[.int .i64 a0_0, .int .i64 a0_1, .int .i64 a0_2, .int .i64 a0_3, .int .i64 a0_4] 23 (0, 0)) (by (with_reducible repeat (first | refine blk_drewN ?_ _ | refine blk_drew ?_ | refine blk_alloc ?_ _)); exact BK187.out)) : gb187 ≠ gb189)); have n6_ := Aside0.mk ((by rw [hg]; exact Nat.ne_of_gt (blk_lt (g := gb187) (o := .cells #[.int .i64 a0_0, .int .i64 a0_1, .int .i64 a0_2, .int .i64 a0_3, .int .i64 a0_4] 23 (0, 0)) (by (with_reducible repeat (first | refine blk_drewN ?_ _ | refine blk_drew ?_ | refine blk_alloc ?_ _)); exact BK187.out)) : gb189 ≠ gb187)); clear BK187; clear HB; have BK187 := n0_; have HB := n1_; have BK189 := n2_; have GW189 := n3_; have GE189 := n4_; have NB187_189 := n5_; have NB189_187 := n6_; clear n0_ n1_ n2_ n3_ n4_ n5_ n6_; clear hb hbox hg; have hnb12 := NB189_187.out; have hnc12 := NB187_189.out; have hcz13_0 : w11.cell? ⟨gb189, 0, none⟩ = some (.int .i64 0) := (blk_cell BK189.out 0).trans rfl; have hcz13_1 : w11.cell? ⟨gb189, 1, none⟩ = some (.int .i64 0) := (blk_cell BK189.out 1).trans rfl; have hcz13_2 : w11.cell? ⟨gb189, 2, none⟩ = some (.int .i64 0) := (blk_cell BK189.out 2).trans rfl; have hcz13_3 : w11.cell? ⟨gb189, 3, none⟩ = some (.int .i64 0) := (blk_cell BK189.out 3).trans rfl; have hcz13_4 : w11.cell? ⟨gb189, 4, none⟩ = some (.int .i64 0) := (blk_cell BK189.out 4).trans rfl; have hfz13_0 := blk_frozen BK189.out 0; have hfz13_1 := blk_frozen BK189.out 1; have hfz13_2 := blk_frozen BK189.out 2; have hfz13_3 := blk_frozen BK189.out 3; have hfz13_4 := blk_frozen BK189.out 4))
        go_loopg [9] kj4 (fun kq v9 w' => ∃ (x9_2 : Int) (x190002_2 : Int) (x190003_2 : Int) (x190004_2 : Int), v9 = .int .i64 x9_2 ∧ Aside0 (decklelaw19_LimitEnough.l0 kq l1 a2 t188 x9_2 a0_0 a0_1 a0_2 a0_3 a0_4 0 a2 x190002_2 x190003_2 x190004_2 = some r) ∧ Aside0 (kq ≤ kj4) ∧ Aside0 (w'.heap[gb187]? = some (.cells #[.int .i64 a0_0, .int .i64 a0_1, .int .i64 a0_2, .int .i64 a0_3, .int .i64 a0_4] 23 (0, 0))) ∧ Aside0 (w'.heap[gb189]? = some (.cells #[.int .i64 0, .int .i64 a2, .int .i64 x190002_2, .int .i64 x190003_2, .int .i64 x190004_2] 23 (0, 0))) ∧ Aside0 (Below w.heap.size w w'))
        case atStart => exact ⟨(0), (0), (0), (0), (by first | rfl | (simp; done) | (simp [*]; done)), H', ⟨Nat.le_refl _⟩, ⟨by (with_reducible repeat (first | refine blk_drewN ?_ _ | refine blk_drew ?_ | refine blk_alloc ?_ _)); refine blk_far ?_ NB187_189.out _; (with_reducible repeat (first | refine blk_drewN ?_ _ | refine blk_drew ?_ | refine blk_alloc ?_ _)); refine blk_far ?_ NB187_189.out _; (with_reducible repeat (first | refine blk_drewN ?_ _ | refine blk_drew ?_ | refine blk_alloc ?_ _)); refine blk_far ?_ NB187_189.out _; (with_reducible repeat (first | refine blk_drewN ?_ _ | refine blk_drew ?_ | refine blk_alloc ?_ _)); refine blk_far ?_ NB187_189.out _; (with_reducible repeat (first | refine blk_drewN ?_ _ | refine blk_drew ?_ | refine blk_alloc ?_ _)); refine blk_far ?_ NB187_189.out _; (with_reducible repeat (first | refine blk_drewN ?_ _ | refine blk_drew ?_ | refine blk_alloc ?_ _)); exact BK187.out⟩, ⟨by (with_reducible repeat (first | refine blk_drewN ?_ _ | refine blk_drew ?_ | refine blk_alloc ?_ _)); refine blk_put (cs := #[.int .i64 0, .int .i64 a2, .int .i64 0, .int .i64 0, .int .i64 0]) ?_ 4 _ rfl; (with_reducible repeat (first | refine blk_drewN ?_ _ | refine blk_drew ?_ | refine blk_alloc ?_ _)); refine blk_put (cs := #[.int .i64 0, .int .i64 a2, .int .i64 0, .int .i64 0, .int .i64 0]) ?_ 3 _ rfl; (with_reducible repeat (first | refine blk_drewN ?_ _ | refine blk_drew ?_ | refine blk_alloc ?_ _)); refine blk_put (cs := #[.int .i64 0, .int .i64 a2, .int .i64 0, .int .i64 0, .int .i64 0]) ?_ 2 _ rfl; (with_reducible repeat (first | refine blk_drewN ?_ _ | refine blk_drew ?_ | refine blk_alloc ?_ _)); refine blk_put (cs := #[.int .i64 0, .int .i64 0, .int .i64 0, .int .i64 0, .int .i64 0]) ?_ 1 _ rfl; (with_reducible repeat (first | refine blk_drewN ?_ _ | refine blk_drew ?_ | refine blk_alloc ?_ _)); refine blk_put (cs := #[.int .i64 0, .int .i64 0, .int .i64 0, .int .i64 0, .int .i64 0]) ?_ 0 _ rfl; (with_reducible repeat (first | refine blk_drewN ?_ _ | refine blk_drew ?_ | refine blk_alloc ?_ _)); exact BK189.out⟩, ⟨by repeat (first | (with_reducible first | exact HB.out | apply below_alloc | apply pw_below_drewN | apply below_drew1 | refine below_set ?_ GE187.out | refine below_set ?_ GE189.out) | exact HB.out)⟩⟩
        case round =>
          clear H'
          try clear c1
          try clear p2
          try clear c5
          try clear c7
          try clear c8
          try clear c8b0
          try clear c8b1
          try clear c9
          try clear c9b0
          try clear c10
          try clear c12
          try clear hcz13_0
          try clear hcz13_1
          try clear hcz13_2
          try clear hcz13_3
          try clear hcz13_4
          try clear hfz13_0
          try clear hfz13_1
          try clear hfz13_2
          try clear hfz13_3
          try clear hfz13_4
          try clear p2
          obtain ⟨x9_2, x190002_2, x190003_2, x190004_2, rfl, HA, HK2, BK187, BK189, HB⟩ := hrel
          cases gk with
          | zero => exact absurd HA.out (by simp [decklelaw19_LimitEnough.l0])
          | succ k2 =>
            have H := HA.out
            clear HA
            simp only [decklelaw19_LimitEnough.l0] at H
            by_cases c14 : x9_2 < (l1.length : Int)
            · rw [if_pos c14] at H
              have c14b0 : decide (x9_2 < (l1.length : Int)) = true := decide_eq_true c14
              clear c14
              have H' := Aside0.mk H
              clear H
              go_wp2
              go_loopg [10] k2 (fun kq v10 w' => ∃ (x10_3 : Int), v10 = .int .i64 x10_3 ∧ Aside0 (decklelaw19_LimitEnough.l1 kq l1 a2 t188 x9_2 x10_3 a0_0 a0_1 a0_2 a0_3 a0_4 0 a2 x190002_2 x190003_2 x190004_2 = some r) ∧ Aside0 (kq ≤ k2) ∧ Aside0 (w'.heap[gb187]? = some (.cells #[.int .i64 a0_0, .int .i64 a0_1, .int .i64 a0_2, .int .i64 a0_3, .int .i64 a0_4] 23 (0, 0))) ∧ Aside0 (w'.heap[gb189]? = some (.cells #[.int .i64 0, .int .i64 a2, .int .i64 x190002_2, .int .i64 x190003_2, .int .i64 x190004_2] 23 (0, 0))) ∧ Aside0 (Below w.heap.size w w'))
              case atStart => exact ⟨(0), (by first | rfl | (simp; done) | (simp [*]; done)), H', ⟨Nat.le_refl _⟩, ⟨by (with_reducible repeat (first | refine blk_drewN ?_ _ | refine blk_drew ?_ | refine blk_alloc ?_ _)); exact BK187.out⟩, ⟨by (with_reducible repeat (first | refine blk_drewN ?_ _ | refine blk_drew ?_ | refine blk_alloc ?_ _)); exact BK189.out⟩, ⟨by repeat (first | (with_reducible first | exact HB.out | apply below_alloc | apply pw_below_drewN | apply below_drew1 | refine below_set ?_ GE187.out | refine below_set ?_ GE189.out) | exact HB.out)⟩⟩
              case round =>
                clear H'
                try clear c1
                try clear p2
                try clear c5
                try clear c7
                try clear c8
                try clear c8b0
                try clear c8b1
                try clear c9
                try clear c9b0
                try clear c10
                try clear c12
                try clear c14
                try clear c14b0
                try clear hcz13_0
                try clear hcz13_1
                try clear hcz13_2
                try clear hcz13_3
                try clear hcz13_4
                try clear hfz13_0
                try clear hfz13_1
                try clear hfz13_2
                try clear hfz13_3
                try clear hfz13_4
                try clear p2
                obtain ⟨x10_3, rfl, HA, HK3, BK187, BK189, HB⟩ := hrel
                cases gk with
                | zero => exact absurd HA.out (by simp [decklelaw19_LimitEnough.l1])
                | succ k3 =>
                  have H := HA.out
                  clear HA
                  simp only [decklelaw19_LimitEnough.l1] at H
                  by_cases c15 : x10_3 < 3
                  · rw [if_pos c15] at H
                    have c15b0 : decide (x10_3 < 3) = true := decide_eq_true c15
                    clear c15
                    by_cases c16 : x10_3 = 0
                    · rw [if_pos c16] at H
                      subst c16
                      by_cases c17 : 0 ≤ x9_2
                      · rw [if_pos c17] at H
                        have c17b0 : decide (0 ≤ x9_2) = true := decide_eq_true c17
                        clear c17
                        by_cases c18 : x9_2 < (l1.length : Int)
                        · rw [if_pos c18] at H
                          have c18b0 : decide (x9_2 < (l1.length : Int)) = true := decide_eq_true c18
                          clear c18
                          by_cases c19 : ((rd_T31 l1 x9_2).f0) < 0
                          · rw [if_pos c19] at H
                            have c19b0 : decide (((rd_T31 l1 x9_2).f0) < 0) = true := decide_eq_true c19
                            clear c19
                            obtain rfl := Option.some.inj H
                            have p193 : 0 ≤ (x9_2 : Int) := of_decide_eq_true (by first | (with_reducible assumption) | assumption)
                            have q193 : x9_2 < (l1.length : Int) := of_decide_eq_true (by first | (with_reducible assumption) | assumption)
                            obtain ⟨ad193, e193, hx193_0, hx193_1, hx193_2⟩ := at_T31 HR1.out x9_2 p193 q193
                            cases e193
                            replace hx193_0 := (HB.out.cell (World.block_lt_of_cell? w _ hx193_0)).trans hx193_0
                            replace hx193_1 := (HB.out.cell (World.block_lt_of_cell? w _ hx193_1)).trans hx193_1
                            replace hx193_2 := (HB.out.cell (World.block_lt_of_cell? w _ hx193_2)).trans hx193_2
                            replace p193 := eq_true p193
                            replace q193 := eq_true q193
                            go_wp2
                            go_ret
                            exact ⟨by first | rfl | (simp [errW_none, errW_some] <;> rfl) | (simp [*, errW_none, errW_some] <;> rfl), by repeat (first | (with_reducible first | exact HB.out | apply below_alloc | apply pw_below_drewN | apply below_drew1 | refine below_set ?_ GE187.out | refine below_set ?_ GE189.out) | exact HB.out)⟩
                          · rw [if_neg c19] at H
                            have c19b0 : decide (((rd_T31 l1 x9_2).f0) < 0) = false := decide_eq_false c19
                            clear c19
                            by_cases c20 : ((rd_T31 l1 x9_2).f0) > 1000000
                            · rw [if_pos c20] at H
                              have c20b0 : decide (1000000 < ((rd_T31 l1 x9_2).f0)) = true := decide_eq_true c20
                              clear c20
                              obtain rfl := Option.some.inj H
                              have p193 : 0 ≤ (x9_2 : Int) := of_decide_eq_true (by first | (with_reducible assumption) | assumption)
                              have q193 : x9_2 < (l1.length : Int) := of_decide_eq_true (by first | (with_reducible assumption) | assumption)
                              obtain ⟨ad193, e193, hx193_0, hx193_1, hx193_2⟩ := at_T31 HR1.out x9_2 p193 q193
                              cases e193
                              replace hx193_0 := (HB.out.cell (World.block_lt_of_cell? w _ hx193_0)).trans hx193_0
                              replace hx193_1 := (HB.out.cell (World.block_lt_of_cell? w _ hx193_1)).trans hx193_1
                              replace hx193_2 := (HB.out.cell (World.block_lt_of_cell? w _ hx193_2)).trans hx193_2
                              replace p193 := eq_true p193
                              replace q193 := eq_true q193
                              have p194 : 0 ≤ (x9_2 : Int) := of_decide_eq_true (by first | (with_reducible assumption) | assumption)
                              have q194 : x9_2 < (l1.length : Int) := of_decide_eq_true (by first | (with_reducible assumption) | assumption)
                              obtain ⟨ad194, e194, hx194_0, hx194_1, hx194_2⟩ := at_T31 HR1.out x9_2 p194 q194
                              obtain rfl : ad193 = ad194 := (by injection e194)
                              replace hx194_0 := (HB.out.cell (World.block_lt_of_cell? w _ hx194_0)).trans hx194_0
                              replace hx194_1 := (HB.out.cell (World.block_lt_of_cell? w _ hx194_1)).trans hx194_1
                              replace hx194_2 := (HB.out.cell (World.block_lt_of_cell? w _ hx194_2)).trans hx194_2
                              replace p194 := eq_true p194
                              replace q194 := eq_true q194
                              go_wp2
                              go_ret
                              exact ⟨by first | rfl | (simp [errW_none, errW_some] <;> rfl) | (simp [*, errW_none, errW_some] <;> rfl), by repeat (first | (with_reducible first | exact HB.out | apply below_alloc | apply pw_below_drewN | apply below_drew1 | refine below_set ?_ GE187.out | refine below_set ?_ GE189.out) | exact HB.out)⟩
                            · rw [if_neg c20] at H
                              have c20b0 : decide (1000000 < ((rd_T31 l1 x9_2).f0)) = false := decide_eq_false c20
                              clear c20
                              have H' := Aside0.mk H
                              clear H
                              have p193 : 0 ≤ (x9_2 : Int) := of_decide_eq_true (by first | (with_reducible assumption) | assumption)
                              have q193 : x9_2 < (l1.length : Int) := of_decide_eq_true (by first | (with_reducible assumption) | assumption)
                              obtain ⟨ad193, e193, hx193_0, hx193_1, hx193_2⟩ := at_T31 HR1.out x9_2 p193 q193
                              cases e193
                              replace hx193_0 := (HB.out.cell (World.block_lt_of_cell? w _ hx193_0)).trans hx193_0
                              replace hx193_1 := (HB.out.cell (World.block_lt_of_cell? w _ hx193_1)).trans hx193_1
                              replace hx193_2 := (HB.out.cell (World.block_lt_of_cell? w _ hx193_2)).trans hx193_2
                              replace p193 := eq_true p193
                              replace q193 := eq_true q193
                              have p194 : 0 ≤ (x9_2 : Int) := of_decide_eq_true (by first | (with_reducible assumption) | assumption)
                              have q194 : x9_2 < (l1.length : Int) := of_decide_eq_true (by first | (with_reducible assumption) | assumption)
                              obtain ⟨ad194, e194, hx194_0, hx194_1, hx194_2⟩ := at_T31 HR1.out x9_2 p194 q194
                              obtain rfl : ad193 = ad194 := (by injection e194)
                              replace hx194_0 := (HB.out.cell (World.block_lt_of_cell? w _ hx194_0)).trans hx194_0
                              replace hx194_1 := (HB.out.cell (World.block_lt_of_cell? w _ hx194_1)).trans hx194_1
                              replace hx194_2 := (HB.out.cell (World.block_lt_of_cell? w _ hx194_2)).trans hx194_2
                              replace p194 := eq_true p194
                              replace q194 := eq_true q194
                              go_wp2
                              go_roundg k3
                              case measure => have := HJ4.out; have := HK2.out; have := HK3.out; omega
                              case rel => exact ⟨(wrap64 (0 + 1)), (by first | rfl | (simp; done) | (simp [*]; done) | (simp [wrap64]; done) | (simp; decide)), H', ⟨by have := HJ4.out; have := HK2.out; have := HK3.out; omega⟩, ⟨by (with_reducible repeat (first | refine blk_drewN ?_ _ | refine blk_drew ?_ | refine blk_alloc ?_ _)); exact BK187.out⟩, ⟨by (with_reducible repeat (first | refine blk_drewN ?_ _ | refine blk_drew ?_ | refine blk_alloc ?_ _)); exact BK189.out⟩, ⟨by repeat (first | (with_reducible first | exact HB.out | apply below_alloc | apply pw_below_drewN | apply below_drew1 | refine below_set ?_ GE187.out | refine below_set ?_ GE189.out) | exact HB.out)⟩⟩
                        · rw [if_neg c18] at H
                          exact absurd H (by simp)
                      · rw [if_neg c17] at H
                        exact absurd H (by simp)
                    · rw [if_neg c16] at H
                      have c16b0 : (x10_3 == 0) = false := beq_eq_false_iff_ne.mpr c16
                      have c16b1 : (x10_3 != 0) = true := bne_iff_ne.mpr c16
                      by_cases c21 : x10_3 = 1
                      · rw [if_pos c21] at H
                        subst c21
                        by_cases c22 : 0 ≤ x9_2
                        · rw [if_pos c22] at H
                          have c22b0 : decide (0 ≤ x9_2) = true := decide_eq_true c22
                          clear c22
                          by_cases c23 : x9_2 < (l1.length : Int)
                          · rw [if_pos c23] at H
                            have c23b0 : decide (x9_2 < (l1.length : Int)) = true := decide_eq_true c23
                            clear c23
                            by_cases c24 : ((rd_T31 l1 x9_2).f1) < 0
                            · rw [if_pos c24] at H
                              have c24b0 : decide (((rd_T31 l1 x9_2).f1) < 0) = true := decide_eq_true c24
                              clear c24
                              obtain rfl := Option.some.inj H
                              have p195 : 0 ≤ (x9_2 : Int) := of_decide_eq_true (by first | (with_reducible assumption) | assumption)
                              have q195 : x9_2 < (l1.length : Int) := of_decide_eq_true (by first | (with_reducible assumption) | assumption)
                              obtain ⟨ad195, e195, hx195_0, hx195_1, hx195_2⟩ := at_T31 HR1.out x9_2 p195 q195
                              cases e195
                              replace hx195_0 := (HB.out.cell (World.block_lt_of_cell? w _ hx195_0)).trans hx195_0
                              replace hx195_1 := (HB.out.cell (World.block_lt_of_cell? w _ hx195_1)).trans hx195_1
                              replace hx195_2 := (HB.out.cell (World.block_lt_of_cell? w _ hx195_2)).trans hx195_2
                              replace p195 := eq_true p195
                              replace q195 := eq_true q195
                              go_wp2
                              go_ret
                              exact ⟨by first | rfl | (simp [errW_none, errW_some] <;> rfl) | (simp [*, errW_none, errW_some] <;> rfl), by repeat (first | (with_reducible first | exact HB.out | apply below_alloc | apply pw_below_drewN | apply below_drew1 | refine below_set ?_ GE187.out | refine below_set ?_ GE189.out) | exact HB.out)⟩
                            · rw [if_neg c24] at H
                              have c24b0 : decide (((rd_T31 l1 x9_2).f1) < 0) = false := decide_eq_false c24
                              clear c24
                              by_cases c25 : ((rd_T31 l1 x9_2).f1) > 1000000
                              · rw [if_pos c25] at H
                                have c25b0 : decide (1000000 < ((rd_T31 l1 x9_2).f1)) = true := decide_eq_true c25
                                clear c25
                                obtain rfl := Option.some.inj H
                                have p195 : 0 ≤ (x9_2 : Int) := of_decide_eq_true (by first | (with_reducible assumption) | assumption)
                                have q195 : x9_2 < (l1.length : Int) := of_decide_eq_true (by first | (with_reducible assumption) | assumption)
                                obtain ⟨ad195, e195, hx195_0, hx195_1, hx195_2⟩ := at_T31 HR1.out x9_2 p195 q195
                                cases e195
                                replace hx195_0 := (HB.out.cell (World.block_lt_of_cell? w _ hx195_0)).trans hx195_0
                                replace hx195_1 := (HB.out.cell (World.block_lt_of_cell? w _ hx195_1)).trans hx195_1
                                replace hx195_2 := (HB.out.cell (World.block_lt_of_cell? w _ hx195_2)).trans hx195_2
                                replace p195 := eq_true p195
                                replace q195 := eq_true q195
                                have p196 : 0 ≤ (x9_2 : Int) := of_decide_eq_true (by first | (with_reducible assumption) | assumption)
                                have q196 : x9_2 < (l1.length : Int) := of_decide_eq_true (by first | (with_reducible assumption) | assumption)
                                obtain ⟨ad196, e196, hx196_0, hx196_1, hx196_2⟩ := at_T31 HR1.out x9_2 p196 q196
                                obtain rfl : ad195 = ad196 := (by injection e196)
                                replace hx196_0 := (HB.out.cell (World.block_lt_of_cell? w _ hx196_0)).trans hx196_0
                                replace hx196_1 := (HB.out.cell (World.block_lt_of_cell? w _ hx196_1)).trans hx196_1
                                replace hx196_2 := (HB.out.cell (World.block_lt_of_cell? w _ hx196_2)).trans hx196_2
                                replace p196 := eq_true p196
                                replace q196 := eq_true q196
                                go_wp2
                                go_ret
                                exact ⟨by first | rfl | (simp [errW_none, errW_some] <;> rfl) | (simp [*, errW_none, errW_some] <;> rfl), by repeat (first | (with_reducible first | exact HB.out | apply below_alloc | apply pw_below_drewN | apply below_drew1 | refine below_set ?_ GE187.out | refine below_set ?_ GE189.out) | exact HB.out)⟩
                              · rw [if_neg c25] at H
                                have c25b0 : decide (1000000 < ((rd_T31 l1 x9_2).f1)) = false := decide_eq_false c25
                                clear c25
                                have H' := Aside0.mk H
                                clear H
                                have p195 : 0 ≤ (x9_2 : Int) := of_decide_eq_true (by first | (with_reducible assumption) | assumption)
                                have q195 : x9_2 < (l1.length : Int) := of_decide_eq_true (by first | (with_reducible assumption) | assumption)
                                obtain ⟨ad195, e195, hx195_0, hx195_1, hx195_2⟩ := at_T31 HR1.out x9_2 p195 q195
                                cases e195
                                replace hx195_0 := (HB.out.cell (World.block_lt_of_cell? w _ hx195_0)).trans hx195_0
                                replace hx195_1 := (HB.out.cell (World.block_lt_of_cell? w _ hx195_1)).trans hx195_1
                                replace hx195_2 := (HB.out.cell (World.block_lt_of_cell? w _ hx195_2)).trans hx195_2
                                replace p195 := eq_true p195
                                replace q195 := eq_true q195
                                have p196 : 0 ≤ (x9_2 : Int) := of_decide_eq_true (by first | (with_reducible assumption) | assumption)
                                have q196 : x9_2 < (l1.length : Int) := of_decide_eq_true (by first | (with_reducible assumption) | assumption)
                                obtain ⟨ad196, e196, hx196_0, hx196_1, hx196_2⟩ := at_T31 HR1.out x9_2 p196 q196
                                obtain rfl : ad195 = ad196 := (by injection e196)
                                replace hx196_0 := (HB.out.cell (World.block_lt_of_cell? w _ hx196_0)).trans hx196_0
                                replace hx196_1 := (HB.out.cell (World.block_lt_of_cell? w _ hx196_1)).trans hx196_1
                                replace hx196_2 := (HB.out.cell (World.block_lt_of_cell? w _ hx196_2)).trans hx196_2
                                replace p196 := eq_true p196
                                replace q196 := eq_true q196
                                go_wp2
                                go_roundg k3
                                case measure => have := HJ4.out; have := HK2.out; have := HK3.out; omega
                                case rel => exact ⟨(wrap64 (1 + 1)), (by first | rfl | (simp; done) | (simp [*]; done) | (simp [wrap64]; done) | (simp; decide)), H', ⟨by have := HJ4.out; have := HK2.out; have := HK3.out; omega⟩, ⟨by (with_reducible repeat (first | refine blk_drewN ?_ _ | refine blk_drew ?_ | refine blk_alloc ?_ _)); exact BK187.out⟩, ⟨by (with_reducible repeat (first | refine blk_drewN ?_ _ | refine blk_drew ?_ | refine blk_alloc ?_ _)); exact BK189.out⟩, ⟨by repeat (first | (with_reducible first | exact HB.out | apply below_alloc | apply pw_below_drewN | apply below_drew1 | refine below_set ?_ GE187.out | refine below_set ?_ GE189.out) | exact HB.out)⟩⟩
                          · rw [if_neg c23] at H
                            exact absurd H (by simp)
                        · rw [if_neg c22] at H
                          exact absurd H (by simp)
                      · rw [if_neg c21] at H
                        have c21b0 : (x10_3 == 1) = false := beq_eq_false_iff_ne.mpr c21
                        have c21b1 : (x10_3 != 1) = true := bne_iff_ne.mpr c21
                        by_cases c26 : x10_3 = 2
                        · rw [if_pos c26] at H
                          subst c26
                          by_cases c27 : 0 ≤ x9_2
                          · rw [if_pos c27] at H
                            have c27b0 : decide (0 ≤ x9_2) = true := decide_eq_true c27
                            clear c27
                            by_cases c28 : x9_2 < (l1.length : Int)
                            · rw [if_pos c28] at H
                              have c28b0 : decide (x9_2 < (l1.length : Int)) = true := decide_eq_true c28
                              clear c28
                              by_cases c29 : ((rd_T31 l1 x9_2).f2) < 0
                              · rw [if_pos c29] at H
                                have c29b0 : decide (((rd_T31 l1 x9_2).f2) < 0) = true := decide_eq_true c29
                                clear c29
                                obtain rfl := Option.some.inj H
                                have p197 : 0 ≤ (x9_2 : Int) := of_decide_eq_true (by first | (with_reducible assumption) | assumption)
                                have q197 : x9_2 < (l1.length : Int) := of_decide_eq_true (by first | (with_reducible assumption) | assumption)
                                obtain ⟨ad197, e197, hx197_0, hx197_1, hx197_2⟩ := at_T31 HR1.out x9_2 p197 q197
                                cases e197
                                replace hx197_0 := (HB.out.cell (World.block_lt_of_cell? w _ hx197_0)).trans hx197_0
                                replace hx197_1 := (HB.out.cell (World.block_lt_of_cell? w _ hx197_1)).trans hx197_1
                                replace hx197_2 := (HB.out.cell (World.block_lt_of_cell? w _ hx197_2)).trans hx197_2
                                replace p197 := eq_true p197
                                replace q197 := eq_true q197
                                go_wp2
                                go_ret
                                exact ⟨by first | rfl | (simp [errW_none, errW_some] <;> rfl) | (simp [*, errW_none, errW_some] <;> rfl), by repeat (first | (with_reducible first | exact HB.out | apply below_alloc | apply pw_below_drewN | apply below_drew1 | refine below_set ?_ GE187.out | refine below_set ?_ GE189.out) | exact HB.out)⟩
                              · rw [if_neg c29] at H
                                have c29b0 : decide (((rd_T31 l1 x9_2).f2) < 0) = false := decide_eq_false c29
                                clear c29
                                by_cases c30 : ((rd_T31 l1 x9_2).f2) > 1000000
                                · rw [if_pos c30] at H
                                  have c30b0 : decide (1000000 < ((rd_T31 l1 x9_2).f2)) = true := decide_eq_true c30
                                  clear c30
                                  obtain rfl := Option.some.inj H
                                  have p197 : 0 ≤ (x9_2 : Int) := of_decide_eq_true (by first | (with_reducible assumption) | assumption)
                                  have q197 : x9_2 < (l1.length : Int) := of_decide_eq_true (by first | (with_reducible assumption) | assumption)
                                  obtain ⟨ad197, e197, hx197_0, hx197_1, hx197_2⟩ := at_T31 HR1.out x9_2 p197 q197
                                  cases e197
                                  replace hx197_0 := (HB.out.cell (World.block_lt_of_cell? w _ hx197_0)).trans hx197_0
                                  replace hx197_1 := (HB.out.cell (World.block_lt_of_cell? w _ hx197_1)).trans hx197_1
                                  replace hx197_2 := (HB.out.cell (World.block_lt_of_cell? w _ hx197_2)).trans hx197_2
                                  replace p197 := eq_true p197
                                  replace q197 := eq_true q197
                                  have p198 : 0 ≤ (x9_2 : Int) := of_decide_eq_true (by first | (with_reducible assumption) | assumption)
                                  have q198 : x9_2 < (l1.length : Int) := of_decide_eq_true (by first | (with_reducible assumption) | assumption)
                                  obtain ⟨ad198, e198, hx198_0, hx198_1, hx198_2⟩ := at_T31 HR1.out x9_2 p198 q198
                                  obtain rfl : ad197 = ad198 := (by injection e198)
                                  replace hx198_0 := (HB.out.cell (World.block_lt_of_cell? w _ hx198_0)).trans hx198_0
                                  replace hx198_1 := (HB.out.cell (World.block_lt_of_cell? w _ hx198_1)).trans hx198_1
                                  replace hx198_2 := (HB.out.cell (World.block_lt_of_cell? w _ hx198_2)).trans hx198_2
                                  replace p198 := eq_true p198
                                  replace q198 := eq_true q198
                                  go_wp2
                                  go_ret
                                  exact ⟨by first | rfl | (simp [errW_none, errW_some] <;> rfl) | (simp [*, errW_none, errW_some] <;> rfl), by repeat (first | (with_reducible first | exact HB.out | apply below_alloc | apply pw_below_drewN | apply below_drew1 | refine below_set ?_ GE187.out | refine below_set ?_ GE189.out) | exact HB.out)⟩
                                · rw [if_neg c30] at H
                                  have c30b0 : decide (1000000 < ((rd_T31 l1 x9_2).f2)) = false := decide_eq_false c30
                                  clear c30
                                  have H' := Aside0.mk H
                                  clear H
                                  have p197 : 0 ≤ (x9_2 : Int) := of_decide_eq_true (by first | (with_reducible assumption) | assumption)
                                  have q197 : x9_2 < (l1.length : Int) := of_decide_eq_true (by first | (with_reducible assumption) | assumption)
                                  obtain ⟨ad197, e197, hx197_0, hx197_1, hx197_2⟩ := at_T31 HR1.out x9_2 p197 q197
                                  cases e197
                                  replace hx197_0 := (HB.out.cell (World.block_lt_of_cell? w _ hx197_0)).trans hx197_0
                                  replace hx197_1 := (HB.out.cell (World.block_lt_of_cell? w _ hx197_1)).trans hx197_1
                                  replace hx197_2 := (HB.out.cell (World.block_lt_of_cell? w _ hx197_2)).trans hx197_2
                                  replace p197 := eq_true p197
                                  replace q197 := eq_true q197
                                  have p198 : 0 ≤ (x9_2 : Int) := of_decide_eq_true (by first | (with_reducible assumption) | assumption)
                                  have q198 : x9_2 < (l1.length : Int) := of_decide_eq_true (by first | (with_reducible assumption) | assumption)
                                  obtain ⟨ad198, e198, hx198_0, hx198_1, hx198_2⟩ := at_T31 HR1.out x9_2 p198 q198
                                  obtain rfl : ad197 = ad198 := (by injection e198)
                                  replace hx198_0 := (HB.out.cell (World.block_lt_of_cell? w _ hx198_0)).trans hx198_0
                                  replace hx198_1 := (HB.out.cell (World.block_lt_of_cell? w _ hx198_1)).trans hx198_1
                                  replace hx198_2 := (HB.out.cell (World.block_lt_of_cell? w _ hx198_2)).trans hx198_2
                                  replace p198 := eq_true p198
                                  replace q198 := eq_true q198
                                  go_wp2
                                  go_roundg k3
                                  case measure => have := HJ4.out; have := HK2.out; have := HK3.out; omega
                                  case rel => exact ⟨(wrap64 (2 + 1)), (by first | rfl | (simp; done) | (simp [*]; done) | (simp [wrap64]; done) | (simp; decide)), H', ⟨by have := HJ4.out; have := HK2.out; have := HK3.out; omega⟩, ⟨by (with_reducible repeat (first | refine blk_drewN ?_ _ | refine blk_drew ?_ | refine blk_alloc ?_ _)); exact BK187.out⟩, ⟨by (with_reducible repeat (first | refine blk_drewN ?_ _ | refine blk_drew ?_ | refine blk_alloc ?_ _)); exact BK189.out⟩, ⟨by repeat (first | (with_reducible first | exact HB.out | apply below_alloc | apply pw_below_drewN | apply below_drew1 | refine below_set ?_ GE187.out | refine below_set ?_ GE189.out) | exact HB.out)⟩⟩
                            · rw [if_neg c28] at H
                              exact absurd H (by simp)
                          · rw [if_neg c27] at H
                            exact absurd H (by simp)
                        · rw [if_neg c26] at H
                          have c26b0 : (x10_3 == 2) = false := beq_eq_false_iff_ne.mpr c26
                          have c26b1 : (x10_3 != 2) = true := bne_iff_ne.mpr c26
                          by_cases c31 : 0 ≤ (-1)
                          · rw [if_pos c31] at H
                            have c31b0 : decide (0 ≤ (-1)) = true := decide_eq_true c31
                            clear c31
                            by_cases c32 : (-1) < (l1.length : Int)
                            · rw [if_pos c32] at H
                              have c32b0 : decide ((-1) < (l1.length : Int)) = true := decide_eq_true c32
                              clear c32
                              have H' := Aside0.mk H
                              clear H
                              have p199 : 0 ≤ ((-1) : Int) := of_decide_eq_true (by first | (with_reducible assumption) | assumption)
                              have q199 : (-1) < (l1.length : Int) := of_decide_eq_true (by first | (with_reducible assumption) | assumption)
                              obtain ⟨ad199, e199, hx199_0, hx199_1, hx199_2⟩ := at_T31 HR1.out (-1) p199 q199
                              cases e199
                              replace hx199_0 := (HB.out.cell (World.block_lt_of_cell? w _ hx199_0)).trans hx199_0
                              replace hx199_1 := (HB.out.cell (World.block_lt_of_cell? w _ hx199_1)).trans hx199_1
                              replace hx199_2 := (HB.out.cell (World.block_lt_of_cell? w _ hx199_2)).trans hx199_2
                              replace p199 := eq_true p199
                              replace q199 := eq_true q199
                              go_wp2
                            · rw [if_neg c32] at H
                              exact absurd H (by simp)
                          · rw [if_neg c31] at H
                            exact absurd H (by simp)
                  · rw [if_neg c15] at H
                    have c15b0 : decide (x10_3 < 3) = false := decide_eq_false c15
                    clear c15
                    by_cases c33 : 0 ≤ x9_2
                    · rw [if_pos c33] at H
                      have c33b0 : decide (0 ≤ x9_2) = true := decide_eq_true c33
                      clear c33
                      by_cases c34 : x9_2 < (l1.length : Int)
                      · rw [if_pos c34] at H
                        have c34b0 : decide (x9_2 < (l1.length : Int)) = true := decide_eq_true c34
                        clear c34
                        obtain ⟨ji35, hji35⟩ : ∃ j_ : Int, (mx x190002_2 ((rd_T31 l1 x9_2).f0)) = j_ := ⟨_, rfl⟩
                        replace H : (decklelaw19_LimitEnough.l0 k3 l1 a2 t188 (wrap64 (x9_2 + 1)) a0_0 a0_1 a0_2 a0_3 a0_4 0 a2 ji35 (mx x190003_2 ((rd_T31 l1 x9_2).f1)) (wrap64 (x190004_2 + ((rd_T31 l1 x9_2).f2)))) = some r := by first | (rw [hji35] at H; exact H) | (simp only [hji35] at H ⊢; exact H)
                        have hji35_ : (if x190002_2 < ((rd_T31 l1 x9_2).f0) then ((rd_T31 l1 x9_2).f0) else x190002_2) = ji35 := hji35
                        obtain ⟨ji36, hji36⟩ : ∃ j_ : Int, (mx x190003_2 ((rd_T31 l1 x9_2).f1)) = j_ := ⟨_, rfl⟩
                        replace H : (decklelaw19_LimitEnough.l0 k3 l1 a2 t188 (wrap64 (x9_2 + 1)) a0_0 a0_1 a0_2 a0_3 a0_4 0 a2 ji35 ji36 (wrap64 (x190004_2 + ((rd_T31 l1 x9_2).f2)))) = some r := by first | (rw [hji36] at H; exact H) | (simp only [hji36] at H ⊢; exact H)
                        have hji36_ : (if x190003_2 < ((rd_T31 l1 x9_2).f1) then ((rd_T31 l1 x9_2).f1) else x190003_2) = ji36 := hji36
                        have H' := Aside0.mk H
                        clear H
                        try go_wp2
                        have n0_ := Aside0.mk (blk_drew BK187.out)
                        have n1_ := Aside0.mk (blk_drew BK189.out)
                        have n2_ := Aside0.mk (below_drew1 HB.out)
                        clear BK187
                        clear BK189
                        clear HB
                        have BK187 := n0_
                        have BK189 := n1_
                        have HB := n2_
                        clear n0_ n1_ n2_
                        have p190 : 0 ≤ (x9_2 : Int) := of_decide_eq_true (by first | (with_reducible assumption) | assumption)
                        have q190 : x9_2 < (l1.length : Int) := of_decide_eq_true (by first | (with_reducible assumption) | assumption)
                        obtain ⟨ad190, e190, hx190_0, hx190_1, hx190_2⟩ := at_T31 HR1.out x9_2 p190 q190
                        have hw190_2 := hx190_2
                        have hw190_1 := hx190_1
                        have hw190_0 := hx190_0
                        cases e190
                        replace hx190_0 := (HB.out.cell (World.block_lt_of_cell? w _ hx190_0)).trans hx190_0
                        replace hx190_1 := (HB.out.cell (World.block_lt_of_cell? w _ hx190_1)).trans hx190_1
                        replace hx190_2 := (HB.out.cell (World.block_lt_of_cell? w _ hx190_2)).trans hx190_2
                        replace p190 := eq_true p190
                        replace q190 := eq_true q190
                        refine start_ (n := 10) (S := fun w' => w'.cell? ⟨gb189, 0, none⟩ = some (.int .i64 0) ∧ w'.cell? ⟨gb189, 1, none⟩ = some (.int .i64 a2) ∧ w'.cell? ⟨gb189, 2, none⟩ = some (.int .i64 x190002_2) ∧ w'.cell? ⟨gb189, 3, none⟩ = some (.int .i64 x190003_2) ∧ w'.cell? ⟨gb189, 4, none⟩ = some (.int .i64 x190004_2) ∧ w'.cell? (ad190.add ((x9_2).toNat * 3)) = some (.int .i64 ((rd_T31 l1 x9_2).f0)) ∧ w'.cell? ⟨(ad190.add ((x9_2).toNat * 3)).block, (ad190.add ((x9_2).toNat * 3)).off + 1, none⟩ = some (.int .i64 ((rd_T31 l1 x9_2).f1)) ∧ w'.cell? ⟨(ad190.add ((x9_2).toNat * 3)).block, (ad190.add ((x9_2).toNat * 3)).off + 2, none⟩ = some (.int .i64 ((rd_T31 l1 x9_2).f2))) (ds := [9]) #[false, false, false, false, false, false, false, false, false, false] (by kernel_rfl) rfl rfl ⟨(blk_cell BK189.out 0).trans rfl, (blk_cell BK189.out 1).trans rfl, (blk_cell BK189.out 2).trans rfl, (blk_cell BK189.out 3).trans rfl, (blk_cell BK189.out 4).trans rfl, ((HB.out.cell (World.block_lt_of_cell? w _ hw190_0)).trans hw190_0), ((HB.out.cell (World.block_lt_of_cell? w _ hw190_1)).trans hw190_1), ((HB.out.cell (World.block_lt_of_cell? w _ hw190_2)).trans hw190_2)⟩ (fun hHeld => ?_); refine with_tabW decklelaw19_LimitEnough.tab13 decklelaw19_LimitEnough.bits13 (fun HT_ HW_ => ?_)
                        generalize wr.drew = w37 at BK187 BK189 HB hx190_0 hx190_1 hx190_2 hHeld ⊢
                        refine pure_ (i := 0) (N := some 57) (v := ?_) (a' := ?_) #[true, false, false, false, false, false, false, false, false, false] rfl rfl (any_of HT_.out (by kernel_rfl)) (fun _ _ _ h => h) (Or.inl ⟨by rfl, ?_⟩) ?_ ?_
                        rotate_left
                        · intro w'
                          go_simp
                          with_reducible rfl
                        rotate_left
                        · simp only [Act.put, List.setIfInBounds_toArray, List.set_cons_zero, List.set_cons_succ, i64_w, i32_w]
                          rfl
                        refine pure_ (i := 2) (N := some 59) (v := ?_) (a' := ?_) #[true, false, true, false, false, false, false, false, false, false] rfl rfl (any_of HT_.out (by kernel_rfl)) (fun _ _ _ h => h) (Or.inl ⟨by rfl, ?_⟩) ?_ ?_
                        rotate_left
                        · intro w'
                          go_simp
                          with_reducible rfl
                        rotate_left
                        · simp only [Act.put, List.setIfInBounds_toArray, List.set_cons_zero, List.set_cons_succ, i64_w, i32_w]
                          rfl
                        refine pure_ (i := 3) (N := some 60) (v := ?_) (a' := ?_) #[true, false, true, true, false, false, false, false, false, false] rfl rfl (any_of HT_.out (by kernel_rfl)) (fun _ _ _ h => h) (Or.inl ⟨by rfl, ?_⟩) ?_ ?_
                        rotate_left
                        · intro w'
                          go_simp
                          with_reducible rfl
                        rotate_left
                        · simp only [Act.put, List.setIfInBounds_toArray, List.set_cons_zero, List.set_cons_succ, i64_w, i32_w]
                          rfl
                        refine pure_ (i := 4) (N := some 61) (v := ?_) (a' := ?_) #[true, false, true, true, true, false, false, false, false, false] rfl rfl (any_of HT_.out (by kernel_rfl)) (fun _ _ _ h => h) (Or.inl ⟨by rfl, ?_⟩) ?_ ?_
                        rotate_left
                        · intro w'
                          go_simp
                          with_reducible rfl
                        rotate_left
                        · simp only [Act.put, List.setIfInBounds_toArray, List.set_cons_zero, List.set_cons_succ, i64_w, i32_w]
                          rfl
                        refine pure_ (i := 5) (N := some 62) (v := ?_) (a' := ?_) #[true, false, true, true, true, true, false, false, false, false] rfl rfl (any_of HT_.out (by kernel_rfl)) (fun _ _ _ h => h) (Or.inl ⟨by rfl, ?_⟩) ?_ ?_
                        rotate_left
                        · intro w'
                          go_simp
                          with_reducible rfl
                        rotate_left
                        · simp only [Act.put, List.setIfInBounds_toArray, List.set_cons_zero, List.set_cons_succ, i64_w, i32_w]
                          rfl
                        refine take_ (i := 1) (N := some 58) (v := ?_) (a' := ?_) #[true, true, true, true, true, true, false, false, false, false] rfl rfl (take_ofW HT_.out HW_.out (by kernel_rfl)) (fun _ _ _ h => h) (Or.inl ⟨by rfl, ?_⟩) hHeld ?_ ?_
                        rotate_left
                        · rintro w' ⟨s0, s1, s2, s3, s4, s5, s6, s7⟩
                          go_simp
                          with_reducible rfl
                        rotate_left
                        · simp only [Act.put, List.setIfInBounds_toArray, List.set_cons_zero, List.set_cons_succ, i64_w, i32_w]
                          rfl
                        refine take_ (i := 6) (N := some 63) (v := ?_) (a' := ?_) #[true, true, true, true, true, true, true, false, false, false] rfl rfl (take_ofW HT_.out HW_.out (by kernel_rfl)) (fun _ _ _ h => h) (Or.inl ⟨by rfl, ?_⟩) hHeld ?_ ?_
                        rotate_left
                        · rintro w' ⟨s0, s1, s2, s3, s4, s5, s6, s7⟩
                          go_simp
                          with_reducible rfl
                        rotate_left
                        · simp only [Act.put, List.setIfInBounds_toArray, List.set_cons_zero, List.set_cons_succ, i64_w, i32_w]
                          rfl
                        refine pure_ (i := 7) (N := some 64) (v := ?_) (a' := ?_) #[true, true, true, true, true, true, true, true, false, false] rfl rfl (any_of HT_.out (by kernel_rfl)) (fun _ _ _ h => h) (Or.inl ⟨by rfl, ?_⟩) ?_ ?_
                        rotate_left
                        · intro w'
                          go_simp
                          with_reducible rfl
                        rotate_left
                        · simp only [Act.put, List.setIfInBounds_toArray, List.set_cons_zero, List.set_cons_succ, i64_w, i32_w]
                          rfl
                        refine pure_ (i := 8) (N := some 65) (v := ?_) (a' := ?_) #[true, true, true, true, true, true, true, true, true, false] rfl rfl (any_of HT_.out (by kernel_rfl)) (fun _ _ _ h => h) (Or.inl ⟨by rfl, ?_⟩) ?_ ?_
                        rotate_left
                        · intro w'
                          go_simp
                          with_reducible rfl
                        rotate_left
                        · simp only [Act.put, List.setIfInBounds_toArray, List.set_cons_zero, List.set_cons_succ, i64_w, i32_w]
                          rfl
                        refine last_ (i := 9) (N := none) #[true, true, true, true, true, true, true, true, true, true] rfl rfl (one_of HT_.out (by kernel_rfl)) (by decide) (fun K hK => ?_)
                        have hs38 : w37.cell? ⟨gb189, 2, none⟩ = some (.int .i64 x190002_2) := (blk_cell BK189.out 2).trans rfl
                        have hfs38 := blk_frozen BK189.out 2
                        have hns38_0 := NB187_189.out
                        have hms38_0 := NB189_187.out
                        refine skip_ (w1 := ?_) (by rfl) rfl ?_ ?_
                        rotate_left
                        · go_simp
                          rfl
                        refine hK.out _ _ ?_
                        clear hK K
                        refine done_ (done_of HT_.out (by kernel_rfl)) ?_
                        try go_wp2
                        have n0_ : Aside0 ((w37.setCell ⟨gb189, 2, none⟩ (.int .i64 ji35)).heap[gb187]? = some (.cells #[.int .i64 a0_0, .int .i64 a0_1, .int .i64 a0_2, .int .i64 a0_3, .int .i64 a0_4] 23 (0, 0))) := ⟨by (with_reducible repeat (first | refine blk_drewN ?_ _ | refine blk_drew ?_ | refine blk_alloc ?_ _)); refine blk_far ?_ NB187_189.out _; (with_reducible repeat (first | refine blk_drewN ?_ _ | refine blk_drew ?_ | refine blk_alloc ?_ _)); exact BK187.out⟩
                        have n1_ : Aside0 ((w37.setCell ⟨gb189, 2, none⟩ (.int .i64 ji35)).heap[gb189]? = some (.cells #[.int .i64 0, .int .i64 a2, .int .i64 ji35, .int .i64 x190003_2, .int .i64 x190004_2] 23 (0, 0))) := ⟨by (with_reducible repeat (first | refine blk_drewN ?_ _ | refine blk_drew ?_ | refine blk_alloc ?_ _)); refine blk_put (cs := #[.int .i64 0, .int .i64 a2, .int .i64 x190002_2, .int .i64 x190003_2, .int .i64 x190004_2]) ?_ 2 _ rfl; (with_reducible repeat (first | refine blk_drewN ?_ _ | refine blk_drew ?_ | refine blk_alloc ?_ _)); exact BK189.out⟩
                        have n2_ : Aside0 (Below w.heap.size w (w37.setCell ⟨gb189, 2, none⟩ (.int .i64 ji35))) := ⟨by repeat (first | (with_reducible first | exact HB.out | apply below_alloc | apply pw_below_drewN | apply below_drew1 | refine below_set ?_ GE187.out | refine below_set ?_ GE189.out) | exact HB.out)⟩
                        (try clear BK187)
                        (try clear BK189)
                        (try clear HB)
                        generalize (w37.setCell ⟨gb189, 2, none⟩ (.int .i64 ji35)) = w39 at n0_ n1_ n2_ ⊢
                        have BK187 := n0_
                        have BK189 := n1_
                        have HB := n2_
                        clear n0_ n1_ n2_
                        have n0_ := Aside0.mk (blk_drew BK187.out)
                        have n1_ := Aside0.mk (blk_drew BK189.out)
                        have n2_ := Aside0.mk (below_drew1 HB.out)
                        clear BK187
                        clear BK189
                        clear HB
                        have BK187 := n0_
                        have BK189 := n1_
                        have HB := n2_
                        clear n0_ n1_ n2_
                        have p191 : 0 ≤ (x9_2 : Int) := of_decide_eq_true (by first | (with_reducible assumption) | assumption)
                        have q191 : x9_2 < (l1.length : Int) := of_decide_eq_true (by first | (with_reducible assumption) | assumption)
                        obtain ⟨ad191, e191, hx191_0, hx191_1, hx191_2⟩ := at_T31 HR1.out x9_2 p191 q191
                        have hw191_2 := hx191_2
                        have hw191_1 := hx191_1
                        have hw191_0 := hx191_0
                        obtain rfl : ad190 = ad191 := (by injection e191)
                        replace hx191_0 := (HB.out.cell (World.block_lt_of_cell? w _ hx191_0)).trans hx191_0
                        replace hx191_1 := (HB.out.cell (World.block_lt_of_cell? w _ hx191_1)).trans hx191_1
                        replace hx191_2 := (HB.out.cell (World.block_lt_of_cell? w _ hx191_2)).trans hx191_2
                        replace p191 := eq_true p191
                        replace q191 := eq_true q191
                        refine start_ (n := 10) (S := fun w' => w'.cell? ⟨gb189, 0, none⟩ = some (.int .i64 0) ∧ w'.cell? ⟨gb189, 1, none⟩ = some (.int .i64 a2) ∧ w'.cell? ⟨gb189, 2, none⟩ = some (.int .i64 ji35) ∧ w'.cell? ⟨gb189, 3, none⟩ = some (.int .i64 x190003_2) ∧ w'.cell? ⟨gb189, 4, none⟩ = some (.int .i64 x190004_2) ∧ w'.cell? (ad190.add ((x9_2).toNat * 3)) = some (.int .i64 ((rd_T31 l1 x9_2).f0)) ∧ w'.cell? ⟨(ad190.add ((x9_2).toNat * 3)).block, (ad190.add ((x9_2).toNat * 3)).off + 1, none⟩ = some (.int .i64 ((rd_T31 l1 x9_2).f1)) ∧ w'.cell? ⟨(ad190.add ((x9_2).toNat * 3)).block, (ad190.add ((x9_2).toNat * 3)).off + 2, none⟩ = some (.int .i64 ((rd_T31 l1 x9_2).f2))) (ds := [9]) #[false, false, false, false, false, false, false, false, false, false] (by kernel_rfl) rfl rfl ⟨(blk_cell BK189.out 0).trans rfl, (blk_cell BK189.out 1).trans rfl, (blk_cell BK189.out 2).trans rfl, (blk_cell BK189.out 3).trans rfl, (blk_cell BK189.out 4).trans rfl, ((HB.out.cell (World.block_lt_of_cell? w _ hw191_0)).trans hw191_0), ((HB.out.cell (World.block_lt_of_cell? w _ hw191_1)).trans hw191_1), ((HB.out.cell (World.block_lt_of_cell? w _ hw191_2)).trans hw191_2)⟩ (fun hHeld => ?_); refine with_tabW decklelaw19_LimitEnough.tab14 decklelaw19_LimitEnough.bits14 (fun HT_ HW_ => ?_)
                        generalize w39.drew = w40 at BK187 BK189 HB hx191_0 hx191_1 hx191_2 hHeld ⊢
                        refine pure_ (i := 0) (N := some 66) (v := ?_) (a' := ?_) #[true, false, false, false, false, false, false, false, false, false] rfl rfl (any_of HT_.out (by kernel_rfl)) (fun _ _ _ h => h) (Or.inl ⟨by rfl, ?_⟩) ?_ ?_
                        rotate_left
                        · intro w'
                          go_simp
                          with_reducible rfl
                        rotate_left
                        · simp only [Act.put, List.setIfInBounds_toArray, List.set_cons_zero, List.set_cons_succ, i64_w, i32_w]
                          rfl
                        refine pure_ (i := 2) (N := some 68) (v := ?_) (a' := ?_) #[true, false, true, false, false, false, false, false, false, false] rfl rfl (any_of HT_.out (by kernel_rfl)) (fun _ _ _ h => h) (Or.inl ⟨by rfl, ?_⟩) ?_ ?_
                        rotate_left
                        · intro w'
                          go_simp
                          with_reducible rfl
                        rotate_left
                        · simp only [Act.put, List.setIfInBounds_toArray, List.set_cons_zero, List.set_cons_succ, i64_w, i32_w]
                          rfl
                        refine pure_ (i := 3) (N := some 69) (v := ?_) (a' := ?_) #[true, false, true, true, false, false, false, false, false, false] rfl rfl (any_of HT_.out (by kernel_rfl)) (fun _ _ _ h => h) (Or.inl ⟨by rfl, ?_⟩) ?_ ?_
                        rotate_left
                        · intro w'
                          go_simp
                          with_reducible rfl
                        rotate_left
                        · simp only [Act.put, List.setIfInBounds_toArray, List.set_cons_zero, List.set_cons_succ, i64_w, i32_w]
                          rfl
                        refine pure_ (i := 4) (N := some 70) (v := ?_) (a' := ?_) #[true, false, true, true, true, false, false, false, false, false] rfl rfl (any_of HT_.out (by kernel_rfl)) (fun _ _ _ h => h) (Or.inl ⟨by rfl, ?_⟩) ?_ ?_
                        rotate_left
                        · intro w'
                          go_simp
                          with_reducible rfl
                        rotate_left
                        · simp only [Act.put, List.setIfInBounds_toArray, List.set_cons_zero, List.set_cons_succ, i64_w, i32_w]
                          rfl
                        refine pure_ (i := 5) (N := some 71) (v := ?_) (a' := ?_) #[true, false, true, true, true, true, false, false, false, false] rfl rfl (any_of HT_.out (by kernel_rfl)) (fun _ _ _ h => h) (Or.inl ⟨by rfl, ?_⟩) ?_ ?_
                        rotate_left
                        · intro w'
                          go_simp
                          with_reducible rfl
                        rotate_left
                        · simp only [Act.put, List.setIfInBounds_toArray, List.set_cons_zero, List.set_cons_succ, i64_w, i32_w]
                          rfl
                        refine take_ (i := 1) (N := some 67) (v := ?_) (a' := ?_) #[true, true, true, true, true, true, false, false, false, false] rfl rfl (take_ofW HT_.out HW_.out (by kernel_rfl)) (fun _ _ _ h => h) (Or.inl ⟨by rfl, ?_⟩) hHeld ?_ ?_
                        rotate_left
                        · rintro w' ⟨s0, s1, s2, s3, s4, s5, s6, s7⟩
                          go_simp
                          with_reducible rfl
                        rotate_left
                        · simp only [Act.put, List.setIfInBounds_toArray, List.set_cons_zero, List.set_cons_succ, i64_w, i32_w]
                          rfl
                        refine take_ (i := 6) (N := some 72) (v := ?_) (a' := ?_) #[true, true, true, true, true, true, true, false, false, false] rfl rfl (take_ofW HT_.out HW_.out (by kernel_rfl)) (fun _ _ _ h => h) (Or.inl ⟨by rfl, ?_⟩) hHeld ?_ ?_
                        rotate_left
                        · rintro w' ⟨s0, s1, s2, s3, s4, s5, s6, s7⟩
                          go_simp
                          with_reducible rfl
                        rotate_left
                        · simp only [Act.put, List.setIfInBounds_toArray, List.set_cons_zero, List.set_cons_succ, i64_w, i32_w]
                          rfl
                        refine pure_ (i := 7) (N := some 73) (v := ?_) (a' := ?_) #[true, true, true, true, true, true, true, true, false, false] rfl rfl (any_of HT_.out (by kernel_rfl)) (fun _ _ _ h => h) (Or.inl ⟨by rfl, ?_⟩) ?_ ?_
                        rotate_left
                        · intro w'
                          go_simp
                          with_reducible rfl
                        rotate_left
                        · simp only [Act.put, List.setIfInBounds_toArray, List.set_cons_zero, List.set_cons_succ, i64_w, i32_w]
                          rfl
                        refine pure_ (i := 8) (N := some 74) (v := ?_) (a' := ?_) #[true, true, true, true, true, true, true, true, true, false] rfl rfl (any_of HT_.out (by kernel_rfl)) (fun _ _ _ h => h) (Or.inl ⟨by rfl, ?_⟩) ?_ ?_
                        rotate_left
                        · intro w'
                          go_simp
                          with_reducible rfl
                        rotate_left
                        · simp only [Act.put, List.setIfInBounds_toArray, List.set_cons_zero, List.set_cons_succ, i64_w, i32_w]
                          rfl
                        refine last_ (i := 9) (N := none) #[true, true, true, true, true, true, true, true, true, true] rfl rfl (one_of HT_.out (by kernel_rfl)) (by decide) (fun K hK => ?_)
                        have hs41 : w40.cell? ⟨gb189, 3, none⟩ = some (.int .i64 x190003_2) := (blk_cell BK189.out 3).trans rfl
                        have hfs41 := blk_frozen BK189.out 3
                        have hns41_0 := NB187_189.out
                        have hms41_0 := NB189_187.out
                        refine skip_ (w1 := ?_) (by rfl) rfl ?_ ?_
                        rotate_left
                        · go_simp
                          rfl
                        refine hK.out _ _ ?_
                        clear hK K
                        refine done_ (done_of HT_.out (by kernel_rfl)) ?_
                        try go_wp2
                        have n0_ : Aside0 ((w40.setCell ⟨gb189, 3, none⟩ (.int .i64 ji36)).heap[gb187]? = some (.cells #[.int .i64 a0_0, .int .i64 a0_1, .int .i64 a0_2, .int .i64 a0_3, .int .i64 a0_4] 23 (0, 0))) := ⟨by (with_reducible repeat (first | refine blk_drewN ?_ _ | refine blk_drew ?_ | refine blk_alloc ?_ _)); refine blk_far ?_ NB187_189.out _; (with_reducible repeat (first | refine blk_drewN ?_ _ | refine blk_drew ?_ | refine blk_alloc ?_ _)); exact BK187.out⟩
                        have n1_ : Aside0 ((w40.setCell ⟨gb189, 3, none⟩ (.int .i64 ji36)).heap[gb189]? = some (.cells #[.int .i64 0, .int .i64 a2, .int .i64 ji35, .int .i64 ji36, .int .i64 x190004_2] 23 (0, 0))) := ⟨by (with_reducible repeat (first | refine blk_drewN ?_ _ | refine blk_drew ?_ | refine blk_alloc ?_ _)); refine blk_put (cs := #[.int .i64 0, .int .i64 a2, .int .i64 ji35, .int .i64 x190003_2, .int .i64 x190004_2]) ?_ 3 _ rfl; (with_reducible repeat (first | refine blk_drewN ?_ _ | refine blk_drew ?_ | refine blk_alloc ?_ _)); exact BK189.out⟩
                        have n2_ : Aside0 (Below w.heap.size w (w40.setCell ⟨gb189, 3, none⟩ (.int .i64 ji36))) := ⟨by repeat (first | (with_reducible first | exact HB.out | apply below_alloc | apply pw_below_drewN | apply below_drew1 | refine below_set ?_ GE187.out | refine below_set ?_ GE189.out) | exact HB.out)⟩
                        (try clear BK187)
                        (try clear BK189)
                        (try clear HB)
                        generalize (w40.setCell ⟨gb189, 3, none⟩ (.int .i64 ji36)) = w42 at n0_ n1_ n2_ ⊢
                        have BK187 := n0_
                        have BK189 := n1_
                        have HB := n2_
                        clear n0_ n1_ n2_
                        have n0_ := Aside0.mk (blk_drew BK187.out)
                        have n1_ := Aside0.mk (blk_drew BK189.out)
                        have n2_ := Aside0.mk (below_drew1 HB.out)
                        clear BK187
                        clear BK189
                        clear HB
                        have BK187 := n0_
                        have BK189 := n1_
                        have HB := n2_
                        clear n0_ n1_ n2_
                        have p192 : 0 ≤ (x9_2 : Int) := of_decide_eq_true (by first | (with_reducible assumption) | assumption)
                        have q192 : x9_2 < (l1.length : Int) := of_decide_eq_true (by first | (with_reducible assumption) | assumption)
                        obtain ⟨ad192, e192, hx192_0, hx192_1, hx192_2⟩ := at_T31 HR1.out x9_2 p192 q192
                        have hw192_2 := hx192_2
                        have hw192_1 := hx192_1
                        have hw192_0 := hx192_0
                        obtain rfl : ad190 = ad192 := (by injection e192)
                        replace hx192_0 := (HB.out.cell (World.block_lt_of_cell? w _ hx192_0)).trans hx192_0
                        replace hx192_1 := (HB.out.cell (World.block_lt_of_cell? w _ hx192_1)).trans hx192_1
                        replace hx192_2 := (HB.out.cell (World.block_lt_of_cell? w _ hx192_2)).trans hx192_2
                        replace p192 := eq_true p192
                        replace q192 := eq_true q192
                        refine start_ (n := 10) (S := fun w' => w'.cell? ⟨gb189, 0, none⟩ = some (.int .i64 0) ∧ w'.cell? ⟨gb189, 1, none⟩ = some (.int .i64 a2) ∧ w'.cell? ⟨gb189, 2, none⟩ = some (.int .i64 ji35) ∧ w'.cell? ⟨gb189, 3, none⟩ = some (.int .i64 ji36) ∧ w'.cell? ⟨gb189, 4, none⟩ = some (.int .i64 x190004_2) ∧ w'.cell? (ad190.add ((x9_2).toNat * 3)) = some (.int .i64 ((rd_T31 l1 x9_2).f0)) ∧ w'.cell? ⟨(ad190.add ((x9_2).toNat * 3)).block, (ad190.add ((x9_2).toNat * 3)).off + 1, none⟩ = some (.int .i64 ((rd_T31 l1 x9_2).f1)) ∧ w'.cell? ⟨(ad190.add ((x9_2).toNat * 3)).block, (ad190.add ((x9_2).toNat * 3)).off + 2, none⟩ = some (.int .i64 ((rd_T31 l1 x9_2).f2))) (ds := [9]) #[false, false, false, false, false, false, false, false, false, false] (by kernel_rfl) rfl rfl ⟨(blk_cell BK189.out 0).trans rfl, (blk_cell BK189.out 1).trans rfl, (blk_cell BK189.out 2).trans rfl, (blk_cell BK189.out 3).trans rfl, (blk_cell BK189.out 4).trans rfl, ((HB.out.cell (World.block_lt_of_cell? w _ hw192_0)).trans hw192_0), ((HB.out.cell (World.block_lt_of_cell? w _ hw192_1)).trans hw192_1), ((HB.out.cell (World.block_lt_of_cell? w _ hw192_2)).trans hw192_2)⟩ (fun hHeld => ?_); refine with_tabW decklelaw19_LimitEnough.tab15 decklelaw19_LimitEnough.bits15 (fun HT_ HW_ => ?_)
                        generalize w42.drew = w43 at BK187 BK189 HB hx192_0 hx192_1 hx192_2 hHeld ⊢
                        refine pure_ (i := 0) (N := some 75) (v := ?_) (a' := ?_) #[true, false, false, false, false, false, false, false, false, false] rfl rfl (any_of HT_.out (by kernel_rfl)) (fun _ _ _ h => h) (Or.inl ⟨by rfl, ?_⟩) ?_ ?_
                        rotate_left
                        · intro w'
                          go_simp
                          with_reducible rfl
                        rotate_left
                        · simp only [Act.put, List.setIfInBounds_toArray, List.set_cons_zero, List.set_cons_succ, i64_w, i32_w]
                          rfl
                        refine pure_ (i := 2) (N := some 77) (v := ?_) (a' := ?_) #[true, false, true, false, false, false, false, false, false, false] rfl rfl (any_of HT_.out (by kernel_rfl)) (fun _ _ _ h => h) (Or.inl ⟨by rfl, ?_⟩) ?_ ?_
                        rotate_left
                        · intro w'
                          go_simp
                          with_reducible rfl
                        rotate_left
                        · simp only [Act.put, List.setIfInBounds_toArray, List.set_cons_zero, List.set_cons_succ, i64_w, i32_w]
                          rfl
                        refine pure_ (i := 3) (N := some 78) (v := ?_) (a' := ?_) #[true, false, true, true, false, false, false, false, false, false] rfl rfl (any_of HT_.out (by kernel_rfl)) (fun _ _ _ h => h) (Or.inl ⟨by rfl, ?_⟩) ?_ ?_
                        rotate_left
                        · intro w'
                          go_simp
                          with_reducible rfl
                        rotate_left
                        · simp only [Act.put, List.setIfInBounds_toArray, List.set_cons_zero, List.set_cons_succ, i64_w, i32_w]
                          rfl
                        refine pure_ (i := 4) (N := some 79) (v := ?_) (a' := ?_) #[true, false, true, true, true, false, false, false, false, false] rfl rfl (any_of HT_.out (by kernel_rfl)) (fun _ _ _ h => h) (Or.inl ⟨by rfl, ?_⟩) ?_ ?_
                        rotate_left
                        · intro w'
                          go_simp
                          with_reducible rfl
                        rotate_left
                        · simp only [Act.put, List.setIfInBounds_toArray, List.set_cons_zero, List.set_cons_succ, i64_w, i32_w]
                          rfl
                        refine pure_ (i := 5) (N := some 80) (v := ?_) (a' := ?_) #[true, false, true, true, true, true, false, false, false, false] rfl rfl (any_of HT_.out (by kernel_rfl)) (fun _ _ _ h => h) (Or.inl ⟨by rfl, ?_⟩) ?_ ?_
                        rotate_left
                        · intro w'
                          go_simp
                          with_reducible rfl
                        rotate_left
                        · simp only [Act.put, List.setIfInBounds_toArray, List.set_cons_zero, List.set_cons_succ, i64_w, i32_w]
                          rfl
                        refine take_ (i := 1) (N := some 76) (v := ?_) (a' := ?_) #[true, true, true, true, true, true, false, false, false, false] rfl rfl (take_ofW HT_.out HW_.out (by kernel_rfl)) (fun _ _ _ h => h) (Or.inl ⟨by rfl, ?_⟩) hHeld ?_ ?_
                        rotate_left
                        · rintro w' ⟨s0, s1, s2, s3, s4, s5, s6, s7⟩
                          go_simp
                          with_reducible rfl
                        rotate_left
                        · simp only [Act.put, List.setIfInBounds_toArray, List.set_cons_zero, List.set_cons_succ, i64_w, i32_w]
                          rfl
                        refine take_ (i := 6) (N := some 81) (v := ?_) (a' := ?_) #[true, true, true, true, true, true, true, false, false, false] rfl rfl (take_ofW HT_.out HW_.out (by kernel_rfl)) (fun _ _ _ h => h) (Or.inl ⟨by rfl, ?_⟩) hHeld ?_ ?_
                        rotate_left
                        · rintro w' ⟨s0, s1, s2, s3, s4, s5, s6, s7⟩
                          go_simp
                          with_reducible rfl
                        rotate_left
                        · simp only [Act.put, List.setIfInBounds_toArray, List.set_cons_zero, List.set_cons_succ, i64_w, i32_w]
                          rfl
                        refine pure_ (i := 7) (N := some 82) (v := ?_) (a' := ?_) #[true, true, true, true, true, true, true, true, false, false] rfl rfl (any_of HT_.out (by kernel_rfl)) (fun _ _ _ h => h) (Or.inl ⟨by rfl, ?_⟩) ?_ ?_
                        rotate_left
                        · intro w'
                          go_simp
                          with_reducible rfl
                        rotate_left
                        · simp only [Act.put, List.setIfInBounds_toArray, List.set_cons_zero, List.set_cons_succ, i64_w, i32_w]
                          rfl
                        refine pure_ (i := 8) (N := some 83) (v := ?_) (a' := ?_) #[true, true, true, true, true, true, true, true, true, false] rfl rfl (any_of HT_.out (by kernel_rfl)) (fun _ _ _ h => h) (Or.inl ⟨by rfl, ?_⟩) ?_ ?_
                        rotate_left
                        · intro w'
                          go_simp
                          with_reducible rfl
                        rotate_left
                        · simp only [Act.put, List.setIfInBounds_toArray, List.set_cons_zero, List.set_cons_succ, i64_w, i32_w]
                          rfl
                        refine last_ (i := 9) (N := none) #[true, true, true, true, true, true, true, true, true, true] rfl rfl (one_of HT_.out (by kernel_rfl)) (by decide) (fun K hK => ?_)
                        have hs44 : w43.cell? ⟨gb189, 4, none⟩ = some (.int .i64 x190004_2) := (blk_cell BK189.out 4).trans rfl
                        have hfs44 := blk_frozen BK189.out 4
                        have hns44_0 := NB187_189.out
                        have hms44_0 := NB189_187.out
                        refine skip_ (w1 := ?_) (by rfl) rfl ?_ ?_
                        rotate_left
                        · go_simp
                          rfl
                        refine hK.out _ _ ?_
                        clear hK K
                        refine done_ (done_of HT_.out (by kernel_rfl)) ?_
                        try go_wp2
                        go_roundg k3
                        case measure => have := HJ4.out; have := HK2.out; have := HK3.out; omega
                        case rel => exact ⟨(wrap64 (x9_2 + 1)), (ji35), (ji36), (wrap64 (x190004_2 + ((rd_T31 l1 x9_2).f2))), (by first | rfl | (simp; done) | (simp [*]; done)), H', ⟨by have := HJ4.out; have := HK2.out; have := HK3.out; omega⟩, ⟨by (with_reducible repeat (first | refine blk_drewN ?_ _ | refine blk_drew ?_ | refine blk_alloc ?_ _)); refine blk_far ?_ NB187_189.out _; (with_reducible repeat (first | refine blk_drewN ?_ _ | refine blk_drew ?_ | refine blk_alloc ?_ _)); exact BK187.out⟩, ⟨by (with_reducible repeat (first | refine blk_drewN ?_ _ | refine blk_drew ?_ | refine blk_alloc ?_ _)); refine blk_put (cs := #[.int .i64 0, .int .i64 a2, .int .i64 ji35, .int .i64 ji36, .int .i64 x190004_2]) ?_ 4 _ rfl; (with_reducible repeat (first | refine blk_drewN ?_ _ | refine blk_drew ?_ | refine blk_alloc ?_ _)); exact BK189.out⟩, ⟨by repeat (first | (with_reducible first | exact HB.out | apply below_alloc | apply pw_below_drewN | apply below_drew1 | refine below_set ?_ GE187.out | refine below_set ?_ GE189.out) | exact HB.out)⟩⟩
                      · rw [if_neg c34] at H
                        exact absurd H (by simp)
                    · rw [if_neg c33] at H
                      exact absurd H (by simp)
            · rw [if_neg c14] at H
              have c14b0 : decide (x9_2 < (l1.length : Int)) = false := decide_eq_false c14
              clear c14
              replace H := Option.bind_eq_some_iff.mp H
              obtain ⟨⟨t200, t201, t202, t203, t204, t205, t206, t207, t208, t209, t210⟩, A450, H⟩ := H
              replace H : (decklelaw19_LimitEnough.l2 k2 l1 a2 t188 0 0 a0_0 a0_1 a0_2 a0_3 a0_4 0 a2 x190002_2 x190003_2 x190004_2 t200 t201 t202 t203 t204 t205 t206 t207 t208 t209 t210) = some r := H
              have A45 := Aside0.mk A450
              clear A450
              have H' := Aside0.mk H
              clear H
              have hnb46 := NB187_189.out
              have hnc46 := NB189_187.out
              have hcz47_0 : wr.cell? ⟨gb187, 0, none⟩ = some (.int .i64 a0_0) := (blk_cell BK187.out 0).trans rfl
              have hcz47_1 : wr.cell? ⟨gb187, 1, none⟩ = some (.int .i64 a0_1) := (blk_cell BK187.out 1).trans rfl
              have hcz47_2 : wr.cell? ⟨gb187, 2, none⟩ = some (.int .i64 a0_2) := (blk_cell BK187.out 2).trans rfl
              have hcz47_3 : wr.cell? ⟨gb187, 3, none⟩ = some (.int .i64 a0_3) := (blk_cell BK187.out 3).trans rfl
              have hcz47_4 : wr.cell? ⟨gb187, 4, none⟩ = some (.int .i64 a0_4) := (blk_cell BK187.out 4).trans rfl
              have hfz47_0 := blk_frozen BK187.out 0
              have hfz47_1 := blk_frozen BK187.out 1
              have hfz47_2 := blk_frozen BK187.out 2
              have hfz47_3 := blk_frozen BK187.out 3
              have hfz47_4 := blk_frozen BK187.out 4
              go_wp2_with (first | ((with_reducible refine gate_callee (f := 8) rfl ?_); refine goesL_ (some 85) rfl rfl Try.func8 (by kernel_rfl) rfl #[.agg #[.int .i64 a0_0, .int .i64 a0_1, .int .i64 a0_2, .int .i64 a0_3, .int .i64 a0_4]] rfl (by (try simp only [List.map_toArray, List.map_cons, List.map_nil]); first | done | rfl | (simp only [List.length_drop, List.length_take]; rfl)) ?_; (with_reducible refine (limit_New.calls a0_0 a0_1 a0_2 a0_3 a0_4 t200 t201 t202 t203 t204 t205 t206 t207 t208 t209 t210 w _ ?side1 A45.out).mono ?_); (case side1 => repeat (first | (with_reducible first | exact HB.out | apply below_alloc | apply pw_below_drewN | apply below_drew1 | refine below_set ?_ GE187.out | refine below_set ?_ GE189.out) | exact HB.out)); rintro e w48 ⟨g211, rfl, hi, hb, hb2⟩; refine ⟨_, rfl, ?_⟩; have n0_ := Aside0.mk (blk_below (g := gb187) (o := .cells #[.int .i64 a0_0, .int .i64 a0_1, .int .i64 a0_2, .int .i64 a0_3, .int .i64 a0_4] 23 (0, 0)) (by (with_reducible repeat (first | refine blk_drewN ?_ _ | refine blk_drew ?_ | refine blk_alloc ?_ _)); exact BK187.out) hb2); have n1_ := Aside0.mk (blk_below (g := gb189) (o := .cells #[.int .i64 0, .int .i64 a2, .int .i64 x190002_2, .int .i64 x190003_2, .int .i64 x190004_2] 23 (0, 0)) (by (with_reducible repeat (first | refine blk_drewN ?_ _ | refine blk_drew ?_ | refine blk_alloc ?_ _)); exact BK189.out) hb2); have n2_ := Aside0.mk (hb); have n3_ := Aside0.mk (hi); have n4_ := Aside0.mk (IsS40.ne_blk hi (blk_below (g := gb187) (o := .cells #[.int .i64 a0_0, .int .i64 a0_1, .int .i64 a0_2, .int .i64 a0_3, .int .i64 a0_4] 23 (0, 0)) (by (with_reducible repeat (first | refine blk_drewN ?_ _ | refine blk_drew ?_ | refine blk_alloc ?_ _)); exact BK187.out) hb2) (by decide)); have n5_ := Aside0.mk (Ne.symm (IsS40.ne_blk hi (blk_below (g := gb187) (o := .cells #[.int .i64 a0_0, .int .i64 a0_1, .int .i64 a0_2, .int .i64 a0_3, .int .i64 a0_4] 23 (0, 0)) (by (with_reducible repeat (first | refine blk_drewN ?_ _ | refine blk_drew ?_ | refine blk_alloc ?_ _)); exact BK187.out) hb2) (by decide))); have n6_ := Aside0.mk (IsS40.ne_blk hi (blk_below (g := gb189) (o := .cells #[.int .i64 0, .int .i64 a2, .int .i64 x190002_2, .int .i64 x190003_2, .int .i64 x190004_2] 23 (0, 0)) (by (with_reducible repeat (first | refine blk_drewN ?_ _ | refine blk_drew ?_ | refine blk_alloc ?_ _)); exact BK189.out) hb2) (by decide)); have n7_ := Aside0.mk (Ne.symm (IsS40.ne_blk hi (blk_below (g := gb189) (o := .cells #[.int .i64 0, .int .i64 a2, .int .i64 x190002_2, .int .i64 x190003_2, .int .i64 x190004_2] 23 (0, 0)) (by (with_reducible repeat (first | refine blk_drewN ?_ _ | refine blk_drew ?_ | refine blk_alloc ?_ _)); exact BK189.out) hb2) (by decide))); clear BK187; clear BK189; clear HB; have BK187 := n0_; have BK189 := n1_; have HB := n2_; have HI211 := n3_; have NB211_187 := n4_; have NB187_211 := n5_; have NB211_189 := n6_; have NB189_211 := n7_; clear n0_ n1_ n2_ n3_ n4_ n5_ n6_ n7_; (try clear hb); (try clear hb2); (try clear hk); (try clear hi)))
              go_loopg [12, 13] k2 (fun kq v12 v13 w' => ∃ (x12_3 : Int) (x13_3 : Int) (x212000_3 : Int) (x212001_3 : Int) (x212002_3 : Int) (x212003_3 : Int) (x212004_3 : Int) (x212005_3 : Int) (x212006_3 : Int) (x212007_3 : Int) (x212008_3 : Int) (x212009_3 : Int) (x212010_3 : Int), v12 = .int .i64 x12_3 ∧ v13 = .int .i64 x13_3 ∧ Aside0 (decklelaw19_LimitEnough.l2 kq l1 a2 t188 x12_3 x13_3 a0_0 a0_1 a0_2 a0_3 a0_4 0 a2 x190002_2 x190003_2 x190004_2 x212000_3 x212001_3 x212002_3 x212003_3 x212004_3 x212005_3 x212006_3 x212007_3 x212008_3 x212009_3 x212010_3 = some r) ∧ Aside0 (kq ≤ k2) ∧ Aside0 (w'.heap[gb187]? = some (.cells #[.int .i64 a0_0, .int .i64 a0_1, .int .i64 a0_2, .int .i64 a0_3, .int .i64 a0_4] 23 (0, 0))) ∧ Aside0 (w'.heap[gb189]? = some (.cells #[.int .i64 0, .int .i64 a2, .int .i64 x190002_2, .int .i64 x190003_2, .int .i64 x190004_2] 23 (0, 0))) ∧ Aside0 (IsS40 w w' g211 x212000_3 x212001_3 x212002_3 x212003_3 x212004_3 x212005_3 x212006_3 x212007_3 x212008_3 x212009_3 x212010_3) ∧ Aside0 (Below w.heap.size w w'))
              case atStart => exact ⟨(0), (0), (t200), (t201), (t202), (t203), (t204), (t205), (t206), (t207), (t208), (t209), (t210), (by first | rfl | (simp; done) | (simp [*]; done)), (by first | rfl | (simp; done) | (simp [*]; done)), H', ⟨Nat.le_refl _⟩, ⟨by (with_reducible repeat (first | refine blk_drewN ?_ _ | refine blk_drew ?_ | refine blk_alloc ?_ _)); exact BK187.out⟩, ⟨by (with_reducible repeat (first | refine blk_drewN ?_ _ | refine blk_drew ?_ | refine blk_alloc ?_ _)); exact BK189.out⟩, ⟨by repeat (first | (with_reducible first | exact HI211.out | apply IsS40.alloc | apply IsS40.drewN | apply IsS40.drew | apply IsS40.set_0 | apply IsS40.set_1 | apply IsS40.set_2 | apply IsS40.set_3 | apply IsS40.set_4 | apply IsS40.set_5 | apply IsS40.set_6 | apply IsS40.set_7 | apply IsS40.set_8 | apply IsS40.set_9 | apply IsS40.set_10 | refine IsS40.far ?_ NB211_187.out _ | refine IsS40.far ?_ NB211_189.out _) | exact HI211.out)⟩, ⟨by repeat (first | (with_reducible first | exact HB.out | apply below_alloc | apply pw_below_drewN | apply below_drew1 | refine below_set ?_ (IsS40.ge HI211.out) | refine below_set ?_ GE187.out | refine below_set ?_ GE189.out) | exact HB.out)⟩⟩
              case round =>
                clear H'
                try clear c1
                try clear p1
                try clear q1
                try clear hx1
                try clear c2
                try clear p2
                try clear c3
                try clear c4
                try clear p6
                try clear c8
                try clear c14
                try clear c14b0
                try clear c15
                try clear c15b0
                try clear p19
                try clear q19
                try clear hx19
                try clear c21
                try clear c21b0
                try clear c21b1
                try clear c22
                try clear c23
                try clear c24
                try clear c24b0
                try clear c25
                try clear c25b0
                try clear c26
                try clear c26b0
                try clear c26b1
                try clear c27
                try clear c27b0
                try clear c28
                try clear c28b0
                try clear c29
                try clear c29b0
                try clear c30
                try clear c30b0
                try clear c31
                try clear c31b0
                try clear c32
                try clear c32b0
                try clear c33
                try clear c33b0
                try clear c34
                try clear c34b0
                try clear c46
                try clear hcz47_0
                try clear hcz47_1
                try clear hcz47_2
                try clear hcz47_3
                try clear hcz47_4
                try clear hfz47_0
                try clear hfz47_1
                try clear hfz47_2
                try clear hfz47_3
                try clear hfz47_4
                try clear hx190_0
                try clear hx190_1
                try clear hx190_2
                try clear hx191_0
                try clear hx191_1
                try clear hx191_2
                try clear hx192_0
                try clear hx192_1
                try clear hx192_2
                try clear hx195_0
                try clear hx195_1
                try clear hx195_2
                try clear hx196_0
                try clear hx196_1
                try clear hx196_2
                try clear hx197_0
                try clear hx197_1
                try clear hx197_2
                try clear hx198_0
                try clear hx198_1
                try clear hx198_2
                try clear hx199_0
                try clear hx199_1
                try clear hx199_2
                try clear p190
                try clear p191
                try clear p192
                try clear p195
                try clear p196
                try clear p197
                try clear p198
                try clear p199
                try clear q190
                try clear q191
                try clear q192
                try clear q195
                try clear q196
                try clear q197
                try clear q198
                try clear q199
                obtain ⟨x12_3, x13_3, x212000_3, x212001_3, x212002_3, x212003_3, x212004_3, x212005_3, x212006_3, x212007_3, x212008_3, x212009_3, x212010_3, rfl, rfl, HA, HK3, BK187, BK189, HI211, HB⟩ := hrel
                cases gk with
                | zero => exact absurd HA.out (by simp [decklelaw19_LimitEnough.l2])
                | succ k3 =>
                  have H := HA.out
                  clear HA
                  simp only [decklelaw19_LimitEnough.l2] at H
                  by_cases c49 : x13_3 < a2
                  · rw [if_pos c49] at H
                    have c49b0 : decide (x13_3 < a2) = true := decide_eq_true c49
                    clear c49
                    replace H := Option.bind_eq_some_iff.mp H
                    obtain ⟨⟨t212, t213, t214, t215, t216, t217, t218, t219, t220, t221, t222, t223⟩, A500, H⟩ := H
                    replace H : (decklelaw19_LimitEnough.l2 k3 l1 a2 t188 t212 (wrap64 (x13_3 + 1)) a0_0 a0_1 a0_2 a0_3 a0_4 0 a2 x190002_2 x190003_2 x190004_2 t213 t214 t215 t216 t217 t218 t219 t220 t221 t222 t223) = some r := H
                    have A50 := Aside0.mk A500
                    clear A500
                    have H' := Aside0.mk H
                    clear H
                    go_wp2_with (first | ((with_reducible refine gate_callee (f := 10) rfl ?_); refine goesL_ (some 94) rfl rfl Try.func10 (by kernel_rfl) rfl #[.pointer (some ⟨g211, 0, none⟩)] rfl (by (try simp only [List.map_toArray, List.map_cons, List.map_nil]); first | done | rfl | (simp only [List.length_drop, List.length_take]; rfl)) ?_; (with_reducible refine (limit_Meter_Object.calls g211 x212000_3 x212001_3 x212002_3 x212003_3 x212004_3 x212005_3 x212006_3 x212007_3 x212008_3 x212009_3 x212010_3 t212 t213 t214 t215 t216 t217 t218 t219 t220 t221 t222 t223 w _ ?side1 ?side2 A50.out).mono ?_); (case side1 => repeat (first | (with_reducible first | exact HI211.out | apply IsS40.alloc | apply IsS40.drewN | apply IsS40.drew | apply IsS40.set_0 | apply IsS40.set_1 | apply IsS40.set_2 | apply IsS40.set_3 | apply IsS40.set_4 | apply IsS40.set_5 | apply IsS40.set_6 | apply IsS40.set_7 | apply IsS40.set_8 | apply IsS40.set_9 | apply IsS40.set_10 | refine IsS40.far ?_ NB211_187.out _ | refine IsS40.far ?_ NB211_189.out _) | exact HI211.out)); (case side2 => repeat (first | (with_reducible first | exact HB.out | apply below_alloc | apply pw_below_drewN | apply below_drew1 | refine below_set ?_ (IsS40.ge HI211.out) | refine below_set ?_ GE187.out | refine below_set ?_ GE189.out) | exact HB.out)); rintro e w51 ⟨rfl, hi, hb, hk⟩; refine ⟨_, rfl, ?_⟩; have n0_ := Aside0.mk (KeepBut.blk hk (g' := gb187) (o := .cells #[.int .i64 a0_0, .int .i64 a0_1, .int .i64 a0_2, .int .i64 a0_3, .int .i64 a0_4] 23 (0, 0)) (by (with_reducible repeat (first | refine blk_drewN ?_ _ | refine blk_drew ?_ | refine blk_alloc ?_ _)); exact BK187.out) NB187_211.out (by simp)); have n1_ := Aside0.mk (KeepBut.blk hk (g' := gb189) (o := .cells #[.int .i64 0, .int .i64 a2, .int .i64 x190002_2, .int .i64 x190003_2, .int .i64 x190004_2] 23 (0, 0)) (by (with_reducible repeat (first | refine blk_drewN ?_ _ | refine blk_drew ?_ | refine blk_alloc ?_ _)); exact BK189.out) NB189_211.out (by simp)); have n2_ := Aside0.mk (hb); have n3_ := Aside0.mk (hi); clear BK187; clear BK189; clear HB; clear HI211; have BK187 := n0_; have BK189 := n1_; have HB := n2_; have HI211 := n3_; clear n0_ n1_ n2_ n3_; (try clear hb); (try clear hb2); (try clear hk); (try clear hi)))
                    go_roundg k3
                    case measure => have := HJ4.out; have := HK2.out; have := HK3.out; omega
                    case rel => exact ⟨(t212), (wrap64 (x13_3 + 1)), (t213), (t214), (t215), (t216), (t217), (t218), (t219), (t220), (t221), (t222), (t223), (by first | rfl | (simp; done) | (simp [*]; done)), (by first | rfl | (simp; done) | (simp [*]; done)), H', ⟨by have := HJ4.out; have := HK2.out; have := HK3.out; omega⟩, ⟨by (with_reducible repeat (first | refine blk_drewN ?_ _ | refine blk_drew ?_ | refine blk_alloc ?_ _)); exact BK187.out⟩, ⟨by (with_reducible repeat (first | refine blk_drewN ?_ _ | refine blk_drew ?_ | refine blk_alloc ?_ _)); exact BK189.out⟩, ⟨by repeat (first | (with_reducible first | exact HI211.out | apply IsS40.alloc | apply IsS40.drewN | apply IsS40.drew | apply IsS40.set_0 | apply IsS40.set_1 | apply IsS40.set_2 | apply IsS40.set_3 | apply IsS40.set_4 | apply IsS40.set_5 | apply IsS40.set_6 | apply IsS40.set_7 | apply IsS40.set_8 | apply IsS40.set_9 | apply IsS40.set_10 | refine IsS40.far ?_ NB211_187.out _ | refine IsS40.far ?_ NB211_189.out _) | exact HI211.out)⟩, ⟨by repeat (first | (with_reducible first | exact HB.out | apply below_alloc | apply pw_below_drewN | apply below_drew1 | refine below_set ?_ (IsS40.ge HI211.out) | refine below_set ?_ GE187.out | refine below_set ?_ GE189.out) | exact HB.out)⟩⟩
                  · rw [if_neg c49] at H
                    have c49b0 : decide (x13_3 < a2) = false := decide_eq_false c49
                    clear c49
                    replace H := Option.bind_eq_some_iff.mp H
                    obtain ⟨⟨t224, t225, t226, t227, t228, t229, t230, t231, t232, t233, t234, t235⟩, A520, H⟩ := H
                    replace H : ((limit_Admits.f a0_0 a0_1 a0_2 a0_3 a0_4 0 a2 x190002_2 x190003_2 x190004_2).bind fun t236 => (if t236 = true then (if t188 = true then (if x12_3 = 0 then (if t224 = 0 then ((limit_tally_Used.f t225 t226 t227 t228 t229 t230 t231 t232 t233 t234 t235).bind fun bt237 => (if (bt237.1 == 0 && (bt237.2.1 == a2 && (bt237.2.2.1 == x190002_2 && (bt237.2.2.2.1 == x190003_2 && (bt237.2.2.2.2.1 == x190004_2))))) = true then ((limit_tally_Over.f bt237.2.2.2.2.2.1 bt237.2.2.2.2.2.2.1 bt237.2.2.2.2.2.2.2.1 bt237.2.2.2.2.2.2.2.2.1 bt237.2.2.2.2.2.2.2.2.2.1 bt237.2.2.2.2.2.2.2.2.2.2.1 bt237.2.2.2.2.2.2.2.2.2.2.2.1 bt237.2.2.2.2.2.2.2.2.2.2.2.2.1 bt237.2.2.2.2.2.2.2.2.2.2.2.2.2.1 bt237.2.2.2.2.2.2.2.2.2.2.2.2.2.2.1 bt237.2.2.2.2.2.2.2.2.2.2.2.2.2.2.2).bind fun bt253 => (some (bt253.1 == 0))) else (none))) else (none)) else (none)) else (none)) else (if t188 = true then ((limit_tally_Over.f t225 t226 t227 t228 t229 t230 t231 t232 t233 t234 t235).bind fun bt265 => (if bt265.1 = 0 then (none) else ((limit_tally_Used.f bt265.2.1 bt265.2.2.1 bt265.2.2.2.1 bt265.2.2.2.2.1 bt265.2.2.2.2.2.1 bt265.2.2.2.2.2.2.1 bt265.2.2.2.2.2.2.2.1 bt265.2.2.2.2.2.2.2.2.1 bt265.2.2.2.2.2.2.2.2.2.1 bt265.2.2.2.2.2.2.2.2.2.2.1 bt265.2.2.2.2.2.2.2.2.2.2.2).bind fun bt277 => (some (!(bt277.1 == 0) || (!(bt277.2.1 == a2) || (!(bt277.2.2.1 == x190002_2) || (!(bt277.2.2.2.1 == x190003_2) || (!(bt277.2.2.2.2.1 == x190004_2)))))))))) else (none)))) = some r := H
                    have A52 := Aside0.mk A520
                    clear A520
                    replace H := Option.bind_eq_some_iff.mp H
                    obtain ⟨t236, A530, H⟩ := H
                    replace H : (if t236 = true then (if t188 = true then (if x12_3 = 0 then (if t224 = 0 then ((limit_tally_Used.f t225 t226 t227 t228 t229 t230 t231 t232 t233 t234 t235).bind fun bt237 => (if (bt237.1 == 0 && (bt237.2.1 == a2 && (bt237.2.2.1 == x190002_2 && (bt237.2.2.2.1 == x190003_2 && (bt237.2.2.2.2.1 == x190004_2))))) = true then ((limit_tally_Over.f bt237.2.2.2.2.2.1 bt237.2.2.2.2.2.2.1 bt237.2.2.2.2.2.2.2.1 bt237.2.2.2.2.2.2.2.2.1 bt237.2.2.2.2.2.2.2.2.2.1 bt237.2.2.2.2.2.2.2.2.2.2.1 bt237.2.2.2.2.2.2.2.2.2.2.2.1 bt237.2.2.2.2.2.2.2.2.2.2.2.2.1 bt237.2.2.2.2.2.2.2.2.2.2.2.2.2.1 bt237.2.2.2.2.2.2.2.2.2.2.2.2.2.2.1 bt237.2.2.2.2.2.2.2.2.2.2.2.2.2.2.2).bind fun bt253 => (some (bt253.1 == 0))) else (none))) else (none)) else (none)) else (none)) else (if t188 = true then ((limit_tally_Over.f t225 t226 t227 t228 t229 t230 t231 t232 t233 t234 t235).bind fun bt265 => (if bt265.1 = 0 then (none) else ((limit_tally_Used.f bt265.2.1 bt265.2.2.1 bt265.2.2.2.1 bt265.2.2.2.2.1 bt265.2.2.2.2.2.1 bt265.2.2.2.2.2.2.1 bt265.2.2.2.2.2.2.2.1 bt265.2.2.2.2.2.2.2.2.1 bt265.2.2.2.2.2.2.2.2.2.1 bt265.2.2.2.2.2.2.2.2.2.2.1 bt265.2.2.2.2.2.2.2.2.2.2.2).bind fun bt277 => (some (!(bt277.1 == 0) || (!(bt277.2.1 == a2) || (!(bt277.2.2.1 == x190002_2) || (!(bt277.2.2.2.1 == x190003_2) || (!(bt277.2.2.2.2.1 == x190004_2)))))))))) else (none))) = some r := H
                    have A53 := Aside0.mk A530
                    clear A530
                    by_cases c54 : t236 = true
                    · subst c54
                      have H1 : (if t188 = true then (if x12_3 = 0 then (if t224 = 0 then ((limit_tally_Used.f t225 t226 t227 t228 t229 t230 t231 t232 t233 t234 t235).bind fun bt237 => (if (bt237.1 == 0 && (bt237.2.1 == a2 && (bt237.2.2.1 == x190002_2 && (bt237.2.2.2.1 == x190003_2 && (bt237.2.2.2.2.1 == x190004_2))))) = true then ((limit_tally_Over.f bt237.2.2.2.2.2.1 bt237.2.2.2.2.2.2.1 bt237.2.2.2.2.2.2.2.1 bt237.2.2.2.2.2.2.2.2.1 bt237.2.2.2.2.2.2.2.2.2.1 bt237.2.2.2.2.2.2.2.2.2.2.1 bt237.2.2.2.2.2.2.2.2.2.2.2.1 bt237.2.2.2.2.2.2.2.2.2.2.2.2.1 bt237.2.2.2.2.2.2.2.2.2.2.2.2.2.1 bt237.2.2.2.2.2.2.2.2.2.2.2.2.2.2.1 bt237.2.2.2.2.2.2.2.2.2.2.2.2.2.2.2).bind fun bt253 => (some (bt253.1 == 0))) else (none))) else (none)) else (none)) else (none)) = some r := by rw [if_pos rfl] at H; exact H
                      clear H
                      have H := H1
                      clear H1
                      by_cases c55 : t188 = true
                      · subst c55
                        have H1 : (if x12_3 = 0 then (if t224 = 0 then ((limit_tally_Used.f t225 t226 t227 t228 t229 t230 t231 t232 t233 t234 t235).bind fun bt237 => (if (bt237.1 == 0 && (bt237.2.1 == a2 && (bt237.2.2.1 == x190002_2 && (bt237.2.2.2.1 == x190003_2 && (bt237.2.2.2.2.1 == x190004_2))))) = true then ((limit_tally_Over.f bt237.2.2.2.2.2.1 bt237.2.2.2.2.2.2.1 bt237.2.2.2.2.2.2.2.1 bt237.2.2.2.2.2.2.2.2.1 bt237.2.2.2.2.2.2.2.2.2.1 bt237.2.2.2.2.2.2.2.2.2.2.1 bt237.2.2.2.2.2.2.2.2.2.2.2.1 bt237.2.2.2.2.2.2.2.2.2.2.2.2.1 bt237.2.2.2.2.2.2.2.2.2.2.2.2.2.1 bt237.2.2.2.2.2.2.2.2.2.2.2.2.2.2.1 bt237.2.2.2.2.2.2.2.2.2.2.2.2.2.2.2).bind fun bt253 => (some (bt253.1 == 0))) else (none))) else (none)) else (none)) = some r := by rw [if_pos rfl] at H; exact H
                        clear H
                        have H := H1
                        clear H1
                        by_cases c56 : x12_3 = 0
                        · rw [if_pos c56] at H
                          have c56b0 : (x12_3 == 0) = true := beq_iff_eq.mpr c56
                          have c56b1 : (x12_3 != 0) = false := bne_eq_false_iff_eq.mpr c56
                          clear c56
                          by_cases c57 : t224 = 0
                          · rw [if_pos c57] at H
                            have c57b0 : (t224 == 0) = true := beq_iff_eq.mpr c57
                            have c57b1 : (t224 != 0) = false := bne_eq_false_iff_eq.mpr c57
                            clear c57
                            replace H := Option.bind_eq_some_iff.mp H
                            obtain ⟨⟨t237, t238, t239, t240, t241, t242, t243, t244, t245, t246, t247, t248, t249, t250, t251, t252⟩, A580, H⟩ := H
                            replace H : (if (t237 == 0 && (t238 == a2 && (t239 == x190002_2 && (t240 == x190003_2 && (t241 == x190004_2))))) = true then ((limit_tally_Over.f t242 t243 t244 t245 t246 t247 t248 t249 t250 t251 t252).bind fun bt253 => (some (bt253.1 == 0))) else (none)) = some r := H
                            have A58 := Aside0.mk A580
                            clear A580
                            by_cases c59 : (t237 == 0 && (t238 == a2 && (t239 == x190002_2 && (t240 == x190003_2 && (t241 == x190004_2))))) = true
                            · rw [if_pos c59] at H
                              have c59b0 : (t237 == 0 && (t238 == a2 && (t239 == x190002_2 && (t240 == x190003_2 && (t241 == x190004_2))))) = true := c59
                              (try (have c59b1 : decide (t237 = 0 && (t238 == a2 && (t239 == x190002_2 && (t240 == x190003_2 && (t241 == x190004_2))))) = true := by simpa using c59))
                              (try (have c59b2 : (t237 == 0 && (t238 == a2 && (t239 == x190002_2 && (t240 == x190003_2 && (t241 == x190004_2))))) = true := by simpa using c59))
                              clear c59
                              replace H := Option.bind_eq_some_iff.mp H
                              obtain ⟨⟨t253, t254, t255, t256, t257, t258, t259, t260, t261, t262, t263, t264⟩, A600, H⟩ := H
                              replace H : (some (t253 == 0)) = some r := H
                              have A60 := Aside0.mk A600
                              clear A600
                              obtain rfl := Option.some.inj H
                              try go_wp2_with (first | ((with_reducible refine gate_callee (f := 18) rfl ?_); refine goesL_ (some 97) rfl rfl Try.func18 (by kernel_rfl) rfl #[.pointer (some ⟨g211, 0, none⟩), .slice A1 l1.length c1] rfl (by (try simp only [List.map_toArray, List.map_cons, List.map_nil]); first | done | rfl | (simp only [List.length_drop, List.length_take]; rfl)) ?_; (with_reducible refine (limit_Meter_Nodes.calls k3 g211 x212000_3 x212001_3 x212002_3 x212003_3 x212004_3 x212005_3 x212006_3 x212007_3 x212008_3 x212009_3 x212010_3 _ _ l1 t224 t225 t226 t227 t228 t229 t230 t231 t232 t233 t234 t235 w _ ?side1 ?side2 ?side3 ?side4 A52.out).mono ?_); (case side1 => repeat (first | (with_reducible first | exact HI211.out | apply IsS40.alloc | apply IsS40.drewN | apply IsS40.drew | apply IsS40.set_0 | apply IsS40.set_1 | apply IsS40.set_2 | apply IsS40.set_3 | apply IsS40.set_4 | apply IsS40.set_5 | apply IsS40.set_6 | apply IsS40.set_7 | apply IsS40.set_8 | apply IsS40.set_9 | apply IsS40.set_10 | refine IsS40.far ?_ NB211_187.out _ | refine IsS40.far ?_ NB211_189.out _) | exact HI211.out)); (case side2 => repeat (first | (with_reducible first | exact HB.out | apply below_alloc | apply pw_below_drewN | apply below_drew1 | refine below_set ?_ (IsS40.ge HI211.out) | refine below_set ?_ GE187.out | refine below_set ?_ GE189.out) | exact HB.out)); (case side3 => exact Kd.C_foot_came k31_heap HR1.out (by repeat (first | (with_reducible first | exact HB.out | apply below_alloc | apply pw_below_drewN | apply below_drew1 | refine below_set ?_ (IsS40.ge HI211.out) | refine below_set ?_ GE187.out | refine below_set ?_ GE189.out) | exact HB.out)) (IsS40.ge HI211.out)); (case side4 => exact HC1.out); rintro e w61 ⟨rfl, hi, hb, hk⟩; refine ⟨_, rfl, ?_⟩; have n0_ := Aside0.mk (KeepBut.blk hk (g' := gb187) (o := .cells #[.int .i64 a0_0, .int .i64 a0_1, .int .i64 a0_2, .int .i64 a0_3, .int .i64 a0_4] 23 (0, 0)) (by (with_reducible repeat (first | refine blk_drewN ?_ _ | refine blk_drew ?_ | refine blk_alloc ?_ _)); exact BK187.out) NB187_211.out (by simp)); have n1_ := Aside0.mk (KeepBut.blk hk (g' := gb189) (o := .cells #[.int .i64 0, .int .i64 a2, .int .i64 x190002_2, .int .i64 x190003_2, .int .i64 x190004_2] 23 (0, 0)) (by (with_reducible repeat (first | refine blk_drewN ?_ _ | refine blk_drew ?_ | refine blk_alloc ?_ _)); exact BK189.out) NB189_211.out (by simp)); have n2_ := Aside0.mk (hb); have n3_ := Aside0.mk (hi); clear BK187; clear BK189; clear HB; clear HI211; have BK187 := n0_; have BK189 := n1_; have HB := n2_; have HI211 := n3_; clear n0_ n1_ n2_ n3_; (try clear hb); (try clear hb2); (try clear hk); (try clear hi); have hnb62 := NB187_189.out; have hnc62 := NB189_187.out; have hnb63 := NB187_211.out; have hnc63 := NB211_187.out; have hcz64_0 : w61.cell? ⟨gb187, 0, none⟩ = some (.int .i64 a0_0) := (blk_cell BK187.out 0).trans rfl; have hcz64_1 : w61.cell? ⟨gb187, 1, none⟩ = some (.int .i64 a0_1) := (blk_cell BK187.out 1).trans rfl; have hcz64_2 : w61.cell? ⟨gb187, 2, none⟩ = some (.int .i64 a0_2) := (blk_cell BK187.out 2).trans rfl; have hcz64_3 : w61.cell? ⟨gb187, 3, none⟩ = some (.int .i64 a0_3) := (blk_cell BK187.out 3).trans rfl; have hcz64_4 : w61.cell? ⟨gb187, 4, none⟩ = some (.int .i64 a0_4) := (blk_cell BK187.out 4).trans rfl; have hfz64_0 := blk_frozen BK187.out 0; have hfz64_1 := blk_frozen BK187.out 1; have hfz64_2 := blk_frozen BK187.out 2; have hfz64_3 := blk_frozen BK187.out 3; have hfz64_4 := blk_frozen BK187.out 4; have hnb65 := NB189_211.out; have hnc65 := NB211_189.out; have hcz66_0 : w61.cell? ⟨gb189, 0, none⟩ = some (.int .i64 0) := (blk_cell BK189.out 0).trans rfl; have hcz66_1 : w61.cell? ⟨gb189, 1, none⟩ = some (.int .i64 a2) := (blk_cell BK189.out 1).trans rfl; have hcz66_2 : w61.cell? ⟨gb189, 2, none⟩ = some (.int .i64 x190002_2) := (blk_cell BK189.out 2).trans rfl; have hcz66_3 : w61.cell? ⟨gb189, 3, none⟩ = some (.int .i64 x190003_2) := (blk_cell BK189.out 3).trans rfl; have hcz66_4 : w61.cell? ⟨gb189, 4, none⟩ = some (.int .i64 x190004_2) := (blk_cell BK189.out 4).trans rfl; have hfz66_0 := blk_frozen BK189.out 0; have hfz66_1 := blk_frozen BK189.out 1; have hfz66_2 := blk_frozen BK189.out 2; have hfz66_3 := blk_frozen BK189.out 3; have hfz66_4 := blk_frozen BK189.out 4) | ((with_reducible refine gate_callee (f := 20) rfl ?_); refine goesL_ (some 100) rfl rfl Try.func20 (by kernel_rfl) rfl #[.agg #[.int .i64 a0_0, .int .i64 a0_1, .int .i64 a0_2, .int .i64 a0_3, .int .i64 a0_4], .agg #[.int .i64 0, .int .i64 a2, .int .i64 x190002_2, .int .i64 x190003_2, .int .i64 x190004_2]] rfl (by (try simp only [List.map_toArray, List.map_cons, List.map_nil]); first | done | rfl | (simp only [List.length_drop, List.length_take]; rfl)) ?_; (with_reducible refine (limit_Admits.calls a0_0 a0_1 a0_2 a0_3 a0_4 0 a2 x190002_2 x190003_2 x190004_2 true _ A53.out).mono ?_); rintro e w67 ⟨rfl, hb⟩; refine ⟨_, rfl, ?_⟩; have n0_ := Aside0.mk (blk_below (g := gb187) (o := .cells #[.int .i64 a0_0, .int .i64 a0_1, .int .i64 a0_2, .int .i64 a0_3, .int .i64 a0_4] 23 (0, 0)) (by (with_reducible repeat (first | refine blk_drewN ?_ _ | refine blk_drew ?_ | refine blk_alloc ?_ _)); exact BK187.out) hb); have n1_ := Aside0.mk (blk_below (g := gb189) (o := .cells #[.int .i64 0, .int .i64 a2, .int .i64 x190002_2, .int .i64 x190003_2, .int .i64 x190004_2] 23 (0, 0)) (by (with_reducible repeat (first | refine blk_drewN ?_ _ | refine blk_drew ?_ | refine blk_alloc ?_ _)); exact BK189.out) hb); have n2_ := Aside0.mk (IsS40.below (by repeat (first | (with_reducible first | exact HI211.out | apply IsS40.alloc | apply IsS40.drewN | apply IsS40.drew | apply IsS40.set_0 | apply IsS40.set_1 | apply IsS40.set_2 | apply IsS40.set_3 | apply IsS40.set_4 | apply IsS40.set_5 | apply IsS40.set_6 | apply IsS40.set_7 | apply IsS40.set_8 | apply IsS40.set_9 | apply IsS40.set_10 | refine IsS40.far ?_ NB211_187.out _ | refine IsS40.far ?_ NB211_189.out _) | exact HI211.out)) hb); have n3_ := Aside0.mk (below_step (by repeat (first | (with_reducible first | exact HB.out | apply below_alloc | apply pw_below_drewN | apply below_drew1 | refine below_set ?_ (IsS40.ge HI211.out) | refine below_set ?_ GE187.out | refine below_set ?_ GE189.out) | exact HB.out)) hb); clear BK187; clear BK189; clear HI211; clear HB; have BK187 := n0_; have BK189 := n1_; have HI211 := n2_; have HB := n3_; clear n0_ n1_ n2_ n3_; (try clear hb); (try clear hb2); (try clear hk); (try clear hi)))
                              have n0_ := Aside0.mk (blk_drew BK187.out)
                              have n1_ := Aside0.mk (blk_drew BK189.out)
                              have n2_ := Aside0.mk (IsS40.drew HI211.out)
                              have n3_ := Aside0.mk (below_drew1 HB.out)
                              clear BK187
                              clear BK189
                              clear HI211
                              clear HB
                              have BK187 := n0_
                              have BK189 := n1_
                              have HI211 := n2_
                              have HB := n3_
                              clear n0_ n1_ n2_ n3_
                              refine start_ (n := 25) (S := fun w' => w'.cell? ⟨gb189, 0, none⟩ = some (.int .i64 0) ∧ w'.cell? ⟨gb189, 1, none⟩ = some (.int .i64 a2) ∧ w'.cell? ⟨gb189, 2, none⟩ = some (.int .i64 x190002_2) ∧ w'.cell? ⟨gb189, 3, none⟩ = some (.int .i64 x190003_2) ∧ w'.cell? ⟨gb189, 4, none⟩ = some (.int .i64 x190004_2)) (ds := []) #[false, false, false, false, false, false, false, false, false, false, false, false, false, false, false, false, false, false, false, false, false, false, false, false, false] (by kernel_rfl) rfl rfl ⟨(blk_cell BK189.out 0).trans rfl, (blk_cell BK189.out 1).trans rfl, (blk_cell BK189.out 2).trans rfl, (blk_cell BK189.out 3).trans rfl, (blk_cell BK189.out 4).trans rfl⟩ (fun hHeld => ?_); refine with_tabW decklelaw19_LimitEnough.tab26 decklelaw19_LimitEnough.bits26 (fun HT_ HW_ => ?_)
                              generalize w67.drew = w68 at BK187 BK189 HI211 HB hHeld ⊢
                              refine pure_ (i := 0) (N := some 101) (v := ?_) (a' := ?_) #[true, false, false, false, false, false, false, false, false, false, false, false, false, false, false, false, false, false, false, false, false, false, false, false, false] rfl rfl (any_of HT_.out (by kernel_rfl)) (fun _ _ _ h => h) (Or.inl ⟨by rfl, ?_⟩) ?_ ?_
                              rotate_left
                              · intro w'
                                go_simp
                                with_reducible rfl
                              rotate_left
                              · simp only [Act.put, List.setIfInBounds_toArray, List.set_cons_zero, List.set_cons_succ, i64_w, i32_w]
                                rfl
                              refine pure_ (i := 1) (N := some 102) (v := ?_) (a' := ?_) #[true, true, false, false, false, false, false, false, false, false, false, false, false, false, false, false, false, false, false, false, false, false, false, false, false] rfl rfl (any_of HT_.out (by kernel_rfl)) (fun _ _ _ h => h) (Or.inl ⟨by rfl, ?_⟩) ?_ ?_
                              rotate_left
                              · intro w'
                                go_simp
                                with_reducible rfl
                              rotate_left
                              · simp only [Act.put, List.setIfInBounds_toArray, List.set_cons_zero, List.set_cons_succ, i64_w, i32_w]
                                rfl
                              refine pure_ (i := 2) (N := some 103) (v := ?_) (a' := ?_) #[true, true, true, false, false, false, false, false, false, false, false, false, false, false, false, false, false, false, false, false, false, false, false, false, false] rfl rfl (any_of HT_.out (by kernel_rfl)) (fun _ _ _ h => h) (Or.inl ⟨by rfl, ?_⟩) ?_ ?_
                              rotate_left
                              · intro w'
                                go_simp
                                with_reducible rfl
                              rotate_left
                              · simp only [Act.put, List.setIfInBounds_toArray, List.set_cons_zero, List.set_cons_succ, i64_w, i32_w]
                                rfl
                              refine pure_ (i := 3) (N := some 104) (v := ?_) (a' := ?_) #[true, true, true, true, false, false, false, false, false, false, false, false, false, false, false, false, false, false, false, false, false, false, false, false, false] rfl rfl (any_of HT_.out (by kernel_rfl)) (fun _ _ _ h => h) (Or.inl ⟨by rfl, ?_⟩) ?_ ?_
                              rotate_left
                              · intro w'
                                go_simp
                                with_reducible rfl
                              rotate_left
                              · simp only [Act.put, List.setIfInBounds_toArray, List.set_cons_zero, List.set_cons_succ, i64_w, i32_w]
                                rfl
                              refine pure_ (i := 4) (N := some 105) (v := ?_) (a' := ?_) #[true, true, true, true, true, false, false, false, false, false, false, false, false, false, false, false, false, false, false, false, false, false, false, false, false] rfl rfl (any_of HT_.out (by kernel_rfl)) (fun _ _ _ h => h) (Or.inl ⟨by rfl, ?_⟩) ?_ ?_
                              rotate_left
                              · intro w'
                                go_simp
                                with_reducible rfl
                              rotate_left
                              · simp only [Act.put, List.setIfInBounds_toArray, List.set_cons_zero, List.set_cons_succ, i64_w, i32_w]
                                rfl
                              refine pure_ (i := 5) (N := some 106) (v := ?_) (a' := ?_) #[true, true, true, true, true, true, false, false, false, false, false, false, false, false, false, false, false, false, false, false, false, false, false, false, false] rfl rfl (any_of HT_.out (by kernel_rfl)) (fun _ _ _ h => h) (Or.inl ⟨by rfl, ?_⟩) ?_ ?_
                              rotate_left
                              · intro w'
                                go_simp
                                with_reducible rfl
                              rotate_left
                              · simp only [Act.put, List.setIfInBounds_toArray, List.set_cons_zero, List.set_cons_succ, i64_w, i32_w]
                                rfl
                              refine pure_ (i := 6) (N := some 107) (v := ?_) (a' := ?_) #[true, true, true, true, true, true, true, false, false, false, false, false, false, false, false, false, false, false, false, false, false, false, false, false, false] rfl rfl (any_of HT_.out (by kernel_rfl)) (fun _ _ _ h => h) (Or.inl ⟨by rfl, ?_⟩) ?_ ?_
                              rotate_left
                              · intro w'
                                go_simp
                                with_reducible rfl
                              rotate_left
                              · simp only [Act.put, List.setIfInBounds_toArray, List.set_cons_zero, List.set_cons_succ, i64_w, i32_w]
                                rfl
                              refine pure_ (i := 7) (N := some 108) (v := ?_) (a' := ?_) #[true, true, true, true, true, true, true, true, false, false, false, false, false, false, false, false, false, false, false, false, false, false, false, false, false] rfl rfl (any_of HT_.out (by kernel_rfl)) (fun _ _ _ h => h) (Or.inl ⟨by rfl, ?_⟩) ?_ ?_
                              rotate_left
                              · intro w'
                                go_simp
                                with_reducible rfl
                              rotate_left
                              · simp only [Act.put, List.setIfInBounds_toArray, List.set_cons_zero, List.set_cons_succ, i64_w, i32_w]
                                rfl
                              refine pure_ (i := 8) (N := some 109) (v := ?_) (a' := ?_) #[true, true, true, true, true, true, true, true, true, false, false, false, false, false, false, false, false, false, false, false, false, false, false, false, false] rfl rfl (any_of HT_.out (by kernel_rfl)) (fun _ _ _ h => h) (Or.inl ⟨by rfl, ?_⟩) ?_ ?_
                              rotate_left
                              · intro w'
                                go_simp
                                with_reducible rfl
                              rotate_left
                              · simp only [Act.put, List.setIfInBounds_toArray, List.set_cons_zero, List.set_cons_succ, i64_w, i32_w]
                                rfl
                              refine pure_ (i := 9) (N := some 110) (v := ?_) (a' := ?_) #[true, true, true, true, true, true, true, true, true, true, false, false, false, false, false, false, false, false, false, false, false, false, false, false, false] rfl rfl (any_of HT_.out (by kernel_rfl)) (fun _ _ _ h => h) (Or.inl ⟨by rfl, ?_⟩) ?_ ?_
                              rotate_left
                              · intro w'
                                go_simp
                                with_reducible rfl
                              rotate_left
                              · simp only [Act.put, List.setIfInBounds_toArray, List.set_cons_zero, List.set_cons_succ, i64_w, i32_w]
                                rfl
                              refine pure_ (i := 10) (N := some 111) (v := ?_) (a' := ?_) #[true, true, true, true, true, true, true, true, true, true, true, false, false, false, false, false, false, false, false, false, false, false, false, false, false] rfl rfl (any_of HT_.out (by kernel_rfl)) (fun _ _ _ h => h) (Or.inl ⟨by rfl, ?_⟩) ?_ ?_
                              rotate_left
                              · intro w'
                                go_simp
                                with_reducible rfl
                              rotate_left
                              · simp only [Act.put, List.setIfInBounds_toArray, List.set_cons_zero, List.set_cons_succ, i64_w, i32_w]
                                rfl
                              refine pure_ (i := 11) (N := some 112) (v := ?_) (a' := ?_) #[true, true, true, true, true, true, true, true, true, true, true, true, false, false, false, false, false, false, false, false, false, false, false, false, false] rfl rfl (any_of HT_.out (by kernel_rfl)) (fun _ _ _ h => h) (Or.inl ⟨by rfl, ?_⟩) ?_ ?_
                              rotate_left
                              · intro w'
                                go_simp
                                with_reducible rfl
                              rotate_left
                              · simp only [Act.put, List.setIfInBounds_toArray, List.set_cons_zero, List.set_cons_succ, i64_w, i32_w]
                                rfl
                              refine pure_ (i := 12) (N := some 113) (v := ?_) (a' := ?_) #[true, true, true, true, true, true, true, true, true, true, true, true, true, false, false, false, false, false, false, false, false, false, false, false, false] rfl rfl (any_of HT_.out (by kernel_rfl)) (fun _ _ _ h => h) (Or.inl ⟨by rfl, ?_⟩) ?_ ?_
                              rotate_left
                              · intro w'
                                go_simp
                                with_reducible rfl
                              rotate_left
                              · simp only [Act.put, List.setIfInBounds_toArray, List.set_cons_zero, List.set_cons_succ, i64_w, i32_w]
                                rfl
                              refine take_ (i := 14) (N := some 115) (v := ?_) (a' := ?_) #[true, true, true, true, true, true, true, true, true, true, true, true, true, false, true, false, false, false, false, false, false, false, false, false, false] rfl rfl (take_ofW HT_.out HW_.out (by kernel_rfl)) (fun _ _ _ h => h) (Or.inl ⟨by rfl, ?_⟩) hHeld ?_ ?_
                              rotate_left
                              · rintro w' ⟨s0, s1, s2, s3, s4⟩
                                go_simp
                                with_reducible rfl
                              rotate_left
                              · simp only [Act.put, List.setIfInBounds_toArray, List.set_cons_zero, List.set_cons_succ, i64_w, i32_w]
                                rfl
                              refine one_ (i := 13) (N := some 114) #[true, true, true, true, true, true, true, true, true, true, true, true, true, true, true, false, false, false, false, false, false, false, false, false, false] rfl rfl (one_of HT_.out (by kernel_rfl)) (by decide) (fun K hK => ?_)
                              refine goes_ Try.func14 (by kernel_rfl) rfl #[.pointer (some ⟨g211, 0, none⟩)] (by rfl) rfl rfl (by (try simp only [List.map_toArray, List.map_cons, List.map_nil]); first | done | rfl | (simp only [List.length_drop, List.length_take]; rfl)) ?_
                              with_reducible refine (limit_tally_Used.calls g211 t225 t226 t227 t228 t229 t230 t231 t232 t233 t234 t235 t237 t238 t239 t240 t241 t242 t243 t244 t245 t246 t247 t248 t249 t250 t251 t252 w _ ?side1 ?side2 A58.out).mono ?_
                              (case side1 => repeat (first | (with_reducible first | exact HI211.out | apply IsS40.alloc | apply IsS40.drewN | apply IsS40.drew | apply IsS40.set_0 | apply IsS40.set_1 | apply IsS40.set_2 | apply IsS40.set_3 | apply IsS40.set_4 | apply IsS40.set_5 | apply IsS40.set_6 | apply IsS40.set_7 | apply IsS40.set_8 | apply IsS40.set_9 | apply IsS40.set_10 | refine IsS40.far ?_ NB211_187.out _ | refine IsS40.far ?_ NB211_189.out _) | exact HI211.out))
                              (case side2 => repeat (first | (with_reducible first | exact HB.out | apply below_alloc | apply pw_below_drewN | apply below_drew1 | refine below_set ?_ (IsS40.ge HI211.out) | refine below_set ?_ GE187.out | refine below_set ?_ GE189.out) | exact HB.out))
                              rintro e w69 ⟨rfl, hi, hb, hk⟩
                              refine ⟨_, rfl, ?_⟩
                              have n0_ := Aside0.mk (KeepBut.blk hk (g' := gb187) (o := .cells #[.int .i64 a0_0, .int .i64 a0_1, .int .i64 a0_2, .int .i64 a0_3, .int .i64 a0_4] 23 (0, 0)) (by (with_reducible repeat (first | refine blk_drewN ?_ _ | refine blk_drew ?_ | refine blk_alloc ?_ _)); exact BK187.out) NB187_211.out (by simp))
                              have n1_ := Aside0.mk (KeepBut.blk hk (g' := gb189) (o := .cells #[.int .i64 0, .int .i64 a2, .int .i64 x190002_2, .int .i64 x190003_2, .int .i64 x190004_2] 23 (0, 0)) (by (with_reducible repeat (first | refine blk_drewN ?_ _ | refine blk_drew ?_ | refine blk_alloc ?_ _)); exact BK189.out) NB189_211.out (by simp))
                              have n2_ := Aside0.mk (hb)
                              have n3_ := Aside0.mk (hi)
                              clear BK187
                              clear BK189
                              clear HB
                              clear HI211
                              have BK187 := n0_
                              have BK189 := n1_
                              have HB := n2_
                              have HI211 := n3_
                              clear n0_ n1_ n2_ n3_
                              (try clear hb)
                              (try clear hb2)
                              (try clear hk)
                              (try clear hi)
                              refine hK.out _ _ ⟨(blk_cell BK189.out 0).trans rfl, (blk_cell BK189.out 1).trans rfl, (blk_cell BK189.out 2).trans rfl, (blk_cell BK189.out 3).trans rfl, (blk_cell BK189.out 4).trans rfl⟩ (fun hHeld => ?_)
                              clear hK K
                              refine norm_ (a' := ?_) ?_ ?_
                              rotate_left
                              · show Act.put _ (some 114) _ = _
                                simp only [Act.put, List.setIfInBounds_toArray, List.set_cons_zero, List.set_cons_succ, i64_w, i32_w]
                                rfl
                              refine pure_ (i := 15) (N := some 116) (v := ?_) (a' := ?_) #[true, true, true, true, true, true, true, true, true, true, true, true, true, true, true, true, false, false, false, false, false, false, false, false, false] rfl rfl (any_of HT_.out (by kernel_rfl)) (fun _ _ _ h => h) (Or.inl ⟨by rfl, ?_⟩) ?_ ?_
                              rotate_left
                              · intro w'
                                go_simp
                                with_reducible rfl
                              rotate_left
                              · simp only [Act.put, List.setIfInBounds_toArray, List.set_cons_zero, List.set_cons_succ, i64_w, i32_w]
                                rfl
                              refine pure_ (i := 16) (N := some 117) (v := ?_) (a' := ?_) #[true, true, true, true, true, true, true, true, true, true, true, true, true, true, true, true, true, false, false, false, false, false, false, false, false] rfl rfl (any_of HT_.out (by kernel_rfl)) (fun _ _ _ h => h) (Or.inl ⟨by rfl, ?_⟩) ?_ ?_
                              rotate_left
                              · intro w'
                                go_simp
                                with_reducible rfl
                              rotate_left
                              · simp only [Act.put, List.setIfInBounds_toArray, List.set_cons_zero, List.set_cons_succ, i64_w, i32_w]
                                rfl
                              refine pure_ (i := 17) (N := some 118) (v := ?_) (a' := ?_) #[true, true, true, true, true, true, true, true, true, true, true, true, true, true, true, true, true, true, false, false, false, false, false, false, false] rfl rfl (any_of HT_.out (by kernel_rfl)) (fun _ _ _ h => h) (Or.inl ⟨by rfl, ?_⟩) ?_ ?_
                              rotate_left
                              · intro w'
                                go_simp
                                with_reducible rfl
                              rotate_left
                              · simp only [Act.put, List.setIfInBounds_toArray, List.set_cons_zero, List.set_cons_succ, i64_w, i32_w]
                                rfl
                              refine pure_ (i := 18) (N := some 119) (v := ?_) (a' := ?_) #[true, true, true, true, true, true, true, true, true, true, true, true, true, true, true, true, true, true, true, false, false, false, false, false, false] rfl rfl (any_of HT_.out (by kernel_rfl)) (fun _ _ _ h => h) (Or.inl ⟨by rfl, ?_⟩) ?_ ?_
                              rotate_left
                              · intro w'
                                go_simp
                                with_reducible rfl
                              rotate_left
                              · simp only [Act.put, List.setIfInBounds_toArray, List.set_cons_zero, List.set_cons_succ, i64_w, i32_w]
                                rfl
                              refine pure_ (i := 19) (N := some 120) (v := ?_) (a' := ?_) #[true, true, true, true, true, true, true, true, true, true, true, true, true, true, true, true, true, true, true, true, false, false, false, false, false] rfl rfl (any_of HT_.out (by kernel_rfl)) (fun _ _ _ h => h) (Or.inl ⟨by rfl, ?_⟩) ?_ ?_
                              rotate_left
                              · intro w'
                                go_simp
                                with_reducible rfl
                              rotate_left
                              · simp only [Act.put, List.setIfInBounds_toArray, List.set_cons_zero, List.set_cons_succ, i64_w, i32_w]
                                rfl
                              refine pure_ (i := 20) (N := some 121) (v := ?_) (a' := ?_) #[true, true, true, true, true, true, true, true, true, true, true, true, true, true, true, true, true, true, true, true, true, false, false, false, false] rfl rfl (any_of HT_.out (by kernel_rfl)) (fun _ _ _ h => h) (Or.inl ⟨by rfl, ?_⟩) ?_ ?_
                              rotate_left
                              · intro w'
                                go_simp
                                with_reducible rfl
                              rotate_left
                              · simp only [Act.put, List.setIfInBounds_toArray, List.set_cons_zero, List.set_cons_succ, i64_w, i32_w]
                                rfl
                              refine one_ (i := 21) (N := some 122) #[true, true, true, true, true, true, true, true, true, true, true, true, true, true, true, true, true, true, true, true, true, true, false, false, false] rfl rfl (one_of HT_.out (by kernel_rfl)) (by decide) (fun K hK => ?_)
                              refine goes_ Try.func16 (by kernel_rfl) rfl #[.pointer (some ⟨g211, 0, none⟩)] (by rfl) rfl rfl (by (try simp only [List.map_toArray, List.map_cons, List.map_nil]); first | done | rfl | (simp only [List.length_drop, List.length_take]; rfl)) ?_
                              with_reducible refine (limit_tally_Over.calls g211 t242 t243 t244 t245 t246 t247 t248 t249 t250 t251 t252 t253 t254 t255 t256 t257 t258 t259 t260 t261 t262 t263 t264 w _ ?side1 ?side2 A60.out).mono ?_
                              (case side1 => repeat (first | (with_reducible first | exact HI211.out | apply IsS40.alloc | apply IsS40.drewN | apply IsS40.drew | apply IsS40.set_0 | apply IsS40.set_1 | apply IsS40.set_2 | apply IsS40.set_3 | apply IsS40.set_4 | apply IsS40.set_5 | apply IsS40.set_6 | apply IsS40.set_7 | apply IsS40.set_8 | apply IsS40.set_9 | apply IsS40.set_10 | refine IsS40.far ?_ NB211_187.out _ | refine IsS40.far ?_ NB211_189.out _) | exact HI211.out))
                              (case side2 => repeat (first | (with_reducible first | exact HB.out | apply below_alloc | apply pw_below_drewN | apply below_drew1 | refine below_set ?_ (IsS40.ge HI211.out) | refine below_set ?_ GE187.out | refine below_set ?_ GE189.out) | exact HB.out))
                              rintro e w70 ⟨rfl, hi, hb, hk⟩
                              refine ⟨_, rfl, ?_⟩
                              have n0_ := Aside0.mk (KeepBut.blk hk (g' := gb187) (o := .cells #[.int .i64 a0_0, .int .i64 a0_1, .int .i64 a0_2, .int .i64 a0_3, .int .i64 a0_4] 23 (0, 0)) (by (with_reducible repeat (first | refine blk_drewN ?_ _ | refine blk_drew ?_ | refine blk_alloc ?_ _)); exact BK187.out) NB187_211.out (by simp))
                              have n1_ := Aside0.mk (KeepBut.blk hk (g' := gb189) (o := .cells #[.int .i64 0, .int .i64 a2, .int .i64 x190002_2, .int .i64 x190003_2, .int .i64 x190004_2] 23 (0, 0)) (by (with_reducible repeat (first | refine blk_drewN ?_ _ | refine blk_drew ?_ | refine blk_alloc ?_ _)); exact BK189.out) NB189_211.out (by simp))
                              have n2_ := Aside0.mk (hb)
                              have n3_ := Aside0.mk (hi)
                              clear BK187
                              clear BK189
                              clear HB
                              clear HI211
                              have BK187 := n0_
                              have BK189 := n1_
                              have HB := n2_
                              have HI211 := n3_
                              clear n0_ n1_ n2_ n3_
                              (try clear hb)
                              (try clear hb2)
                              (try clear hk)
                              (try clear hi)
                              refine hK.out _ _ ⟨(blk_cell BK189.out 0).trans rfl, (blk_cell BK189.out 1).trans rfl, (blk_cell BK189.out 2).trans rfl, (blk_cell BK189.out 3).trans rfl, (blk_cell BK189.out 4).trans rfl⟩ (fun hHeld => ?_)
                              clear hK K
                              refine norm_ (a' := ?_) ?_ ?_
                              rotate_left
                              · show Act.put _ (some 122) _ = _
                                simp only [Act.put, List.setIfInBounds_toArray, List.set_cons_zero, List.set_cons_succ, i64_w, i32_w]
                                rfl
                              refine pure_ (i := 22) (N := some 123) (v := ?_) (a' := ?_) #[true, true, true, true, true, true, true, true, true, true, true, true, true, true, true, true, true, true, true, true, true, true, true, false, false] rfl rfl (any_of HT_.out (by kernel_rfl)) (fun _ _ _ h => h) (Or.inl ⟨by rfl, ?_⟩) ?_ ?_
                              rotate_left
                              · intro w'
                                go_simp
                                with_reducible rfl
                              rotate_left
                              · simp only [Act.put, List.setIfInBounds_toArray, List.set_cons_zero, List.set_cons_succ, i64_w, i32_w]
                                rfl
                              refine pure_ (i := 23) (N := some 124) (v := ?_) (a' := ?_) #[true, true, true, true, true, true, true, true, true, true, true, true, true, true, true, true, true, true, true, true, true, true, true, true, false] rfl rfl (any_of HT_.out (by kernel_rfl)) (fun _ _ _ h => h) (Or.inl ⟨by rfl, ?_⟩) ?_ ?_
                              rotate_left
                              · intro w'
                                go_simp
                                with_reducible rfl
                              rotate_left
                              · simp only [Act.put, List.setIfInBounds_toArray, List.set_cons_zero, List.set_cons_succ, i64_w, i32_w]
                                rfl
                              refine pure_ (i := 24) (N := some 6) (v := ?_) (a' := ?_) #[true, true, true, true, true, true, true, true, true, true, true, true, true, true, true, true, true, true, true, true, true, true, true, true, true] rfl rfl (any_of HT_.out (by kernel_rfl)) (fun _ _ _ h => h) (Or.inl ⟨by rfl, ?_⟩) ?_ ?_
                              rotate_left
                              · intro w'
                                go_simp
                                with_reducible rfl
                              rotate_left
                              · simp only [Act.put, List.setIfInBounds_toArray, List.set_cons_zero, List.set_cons_succ, i64_w, i32_w]
                                rfl
                              refine done_ (done_of HT_.out (by kernel_rfl)) ?_
                              try go_wp2
                              go_ret
                              exact ⟨by first | rfl | (simp [errW_none, errW_some] <;> rfl) | (simp [*, errW_none, errW_some] <;> rfl), by repeat (first | (with_reducible first | exact HB.out | apply below_alloc | apply pw_below_drewN | apply below_drew1 | refine below_set ?_ (IsS40.ge HI211.out) | refine below_set ?_ GE187.out | refine below_set ?_ GE189.out) | exact HB.out)⟩
                            · rw [if_neg c59] at H
                              exact absurd H (by simp)
                          · rw [if_neg c57] at H
                            exact absurd H (by simp)
                        · rw [if_neg c56] at H
                          exact absurd H (by simp)
                      · replace c55 := Bool.eq_false_iff.mpr c55
                        subst c55
                        have H1 : (none) = some r := by rw [if_neg (show ¬ (false = true) by decide)] at H; exact H
                        clear H
                        have H := H1
                        clear H1
                        exact absurd H (by simp)
                    · replace c54 := Bool.eq_false_iff.mpr c54
                      subst c54
                      have H1 : (if t188 = true then ((limit_tally_Over.f t225 t226 t227 t228 t229 t230 t231 t232 t233 t234 t235).bind fun bt265 => (if bt265.1 = 0 then (none) else ((limit_tally_Used.f bt265.2.1 bt265.2.2.1 bt265.2.2.2.1 bt265.2.2.2.2.1 bt265.2.2.2.2.2.1 bt265.2.2.2.2.2.2.1 bt265.2.2.2.2.2.2.2.1 bt265.2.2.2.2.2.2.2.2.1 bt265.2.2.2.2.2.2.2.2.2.1 bt265.2.2.2.2.2.2.2.2.2.2.1 bt265.2.2.2.2.2.2.2.2.2.2.2).bind fun bt277 => (some (!(bt277.1 == 0) || (!(bt277.2.1 == a2) || (!(bt277.2.2.1 == x190002_2) || (!(bt277.2.2.2.1 == x190003_2) || (!(bt277.2.2.2.2.1 == x190004_2)))))))))) else (none)) = some r := by rw [if_neg (show ¬ (false = true) by decide)] at H; exact H
                      clear H
                      have H := H1
                      clear H1
                      by_cases c71 : t188 = true
                      · subst c71
                        have H1 : ((limit_tally_Over.f t225 t226 t227 t228 t229 t230 t231 t232 t233 t234 t235).bind fun bt265 => (if bt265.1 = 0 then (none) else ((limit_tally_Used.f bt265.2.1 bt265.2.2.1 bt265.2.2.2.1 bt265.2.2.2.2.1 bt265.2.2.2.2.2.1 bt265.2.2.2.2.2.2.1 bt265.2.2.2.2.2.2.2.1 bt265.2.2.2.2.2.2.2.2.1 bt265.2.2.2.2.2.2.2.2.2.1 bt265.2.2.2.2.2.2.2.2.2.2.1 bt265.2.2.2.2.2.2.2.2.2.2.2).bind fun bt277 => (some (!(bt277.1 == 0) || (!(bt277.2.1 == a2) || (!(bt277.2.2.1 == x190002_2) || (!(bt277.2.2.2.1 == x190003_2) || (!(bt277.2.2.2.2.1 == x190004_2)))))))))) = some r := by rw [if_pos rfl] at H; exact H
                        clear H
                        have H := H1
                        clear H1
                        replace H := Option.bind_eq_some_iff.mp H
                        obtain ⟨⟨t265, t266, t267, t268, t269, t270, t271, t272, t273, t274, t275, t276⟩, A720, H⟩ := H
                        replace H : (if t265 = 0 then (none) else ((limit_tally_Used.f t266 t267 t268 t269 t270 t271 t272 t273 t274 t275 t276).bind fun bt277 => (some (!(bt277.1 == 0) || (!(bt277.2.1 == a2) || (!(bt277.2.2.1 == x190002_2) || (!(bt277.2.2.2.1 == x190003_2) || (!(bt277.2.2.2.2.1 == x190004_2))))))))) = some r := H
                        have A72 := Aside0.mk A720
                        clear A720
                        by_cases c73 : t265 = 0
                        · rw [if_pos c73] at H
                          exact absurd H (by simp)
                        · rw [if_neg c73] at H
                          have c73b0 : (t265 == 0) = false := beq_eq_false_iff_ne.mpr c73
                          have c73b1 : (t265 != 0) = true := bne_iff_ne.mpr c73
                          replace H := Option.bind_eq_some_iff.mp H
                          obtain ⟨⟨t277, t278, t279, t280, t281, t282, t283, t284, t285, t286, t287, t288, t289, t290, t291, t292⟩, A740, H⟩ := H
                          replace H : (some (!(t277 == 0) || (!(t278 == a2) || (!(t279 == x190002_2) || (!(t280 == x190003_2) || (!(t281 == x190004_2))))))) = some r := H
                          have A74 := Aside0.mk A740
                          clear A740
                          obtain rfl := Option.some.inj H
                          try go_wp2_with (first | ((with_reducible refine gate_callee (f := 18) rfl ?_); refine goesL_ (some 97) rfl rfl Try.func18 (by kernel_rfl) rfl #[.pointer (some ⟨g211, 0, none⟩), .slice A1 l1.length c1] rfl (by (try simp only [List.map_toArray, List.map_cons, List.map_nil]); first | done | rfl | (simp only [List.length_drop, List.length_take]; rfl)) ?_; (with_reducible refine (limit_Meter_Nodes.calls k3 g211 x212000_3 x212001_3 x212002_3 x212003_3 x212004_3 x212005_3 x212006_3 x212007_3 x212008_3 x212009_3 x212010_3 _ _ l1 t224 t225 t226 t227 t228 t229 t230 t231 t232 t233 t234 t235 w _ ?side1 ?side2 ?side3 ?side4 A52.out).mono ?_); (case side1 => repeat (first | (with_reducible first | exact HI211.out | apply IsS40.alloc | apply IsS40.drewN | apply IsS40.drew | apply IsS40.set_0 | apply IsS40.set_1 | apply IsS40.set_2 | apply IsS40.set_3 | apply IsS40.set_4 | apply IsS40.set_5 | apply IsS40.set_6 | apply IsS40.set_7 | apply IsS40.set_8 | apply IsS40.set_9 | apply IsS40.set_10 | refine IsS40.far ?_ NB211_187.out _ | refine IsS40.far ?_ NB211_189.out _) | exact HI211.out)); (case side2 => repeat (first | (with_reducible first | exact HB.out | apply below_alloc | apply pw_below_drewN | apply below_drew1 | refine below_set ?_ (IsS40.ge HI211.out) | refine below_set ?_ GE187.out | refine below_set ?_ GE189.out) | exact HB.out)); (case side3 => exact Kd.C_foot_came k31_heap HR1.out (by repeat (first | (with_reducible first | exact HB.out | apply below_alloc | apply pw_below_drewN | apply below_drew1 | refine below_set ?_ (IsS40.ge HI211.out) | refine below_set ?_ GE187.out | refine below_set ?_ GE189.out) | exact HB.out)) (IsS40.ge HI211.out)); (case side4 => exact HC1.out); rintro e w75 ⟨rfl, hi, hb, hk⟩; refine ⟨_, rfl, ?_⟩; have n0_ := Aside0.mk (KeepBut.blk hk (g' := gb187) (o := .cells #[.int .i64 a0_0, .int .i64 a0_1, .int .i64 a0_2, .int .i64 a0_3, .int .i64 a0_4] 23 (0, 0)) (by (with_reducible repeat (first | refine blk_drewN ?_ _ | refine blk_drew ?_ | refine blk_alloc ?_ _)); exact BK187.out) NB187_211.out (by simp)); have n1_ := Aside0.mk (KeepBut.blk hk (g' := gb189) (o := .cells #[.int .i64 0, .int .i64 a2, .int .i64 x190002_2, .int .i64 x190003_2, .int .i64 x190004_2] 23 (0, 0)) (by (with_reducible repeat (first | refine blk_drewN ?_ _ | refine blk_drew ?_ | refine blk_alloc ?_ _)); exact BK189.out) NB189_211.out (by simp)); have n2_ := Aside0.mk (hb); have n3_ := Aside0.mk (hi); clear BK187; clear BK189; clear HB; clear HI211; have BK187 := n0_; have BK189 := n1_; have HB := n2_; have HI211 := n3_; clear n0_ n1_ n2_ n3_; (try clear hb); (try clear hb2); (try clear hk); (try clear hi); have hnb76 := NB187_189.out; have hnc76 := NB189_187.out; have hnb77 := NB187_211.out; have hnc77 := NB211_187.out; have hcz78_0 : w75.cell? ⟨gb187, 0, none⟩ = some (.int .i64 a0_0) := (blk_cell BK187.out 0).trans rfl; have hcz78_1 : w75.cell? ⟨gb187, 1, none⟩ = some (.int .i64 a0_1) := (blk_cell BK187.out 1).trans rfl; have hcz78_2 : w75.cell? ⟨gb187, 2, none⟩ = some (.int .i64 a0_2) := (blk_cell BK187.out 2).trans rfl; have hcz78_3 : w75.cell? ⟨gb187, 3, none⟩ = some (.int .i64 a0_3) := (blk_cell BK187.out 3).trans rfl; have hcz78_4 : w75.cell? ⟨gb187, 4, none⟩ = some (.int .i64 a0_4) := (blk_cell BK187.out 4).trans rfl; have hfz78_0 := blk_frozen BK187.out 0; have hfz78_1 := blk_frozen BK187.out 1; have hfz78_2 := blk_frozen BK187.out 2; have hfz78_3 := blk_frozen BK187.out 3; have hfz78_4 := blk_frozen BK187.out 4; have hnb79 := NB189_211.out; have hnc79 := NB211_189.out; have hcz80_0 : w75.cell? ⟨gb189, 0, none⟩ = some (.int .i64 0) := (blk_cell BK189.out 0).trans rfl; have hcz80_1 : w75.cell? ⟨gb189, 1, none⟩ = some (.int .i64 a2) := (blk_cell BK189.out 1).trans rfl; have hcz80_2 : w75.cell? ⟨gb189, 2, none⟩ = some (.int .i64 x190002_2) := (blk_cell BK189.out 2).trans rfl; have hcz80_3 : w75.cell? ⟨gb189, 3, none⟩ = some (.int .i64 x190003_2) := (blk_cell BK189.out 3).trans rfl; have hcz80_4 : w75.cell? ⟨gb189, 4, none⟩ = some (.int .i64 x190004_2) := (blk_cell BK189.out 4).trans rfl; have hfz80_0 := blk_frozen BK189.out 0; have hfz80_1 := blk_frozen BK189.out 1; have hfz80_2 := blk_frozen BK189.out 2; have hfz80_3 := blk_frozen BK189.out 3; have hfz80_4 := blk_frozen BK189.out 4) | ((with_reducible refine gate_callee (f := 20) rfl ?_); refine goesL_ (some 100) rfl rfl Try.func20 (by kernel_rfl) rfl #[.agg #[.int .i64 a0_0, .int .i64 a0_1, .int .i64 a0_2, .int .i64 a0_3, .int .i64 a0_4], .agg #[.int .i64 0, .int .i64 a2, .int .i64 x190002_2, .int .i64 x190003_2, .int .i64 x190004_2]] rfl (by (try simp only [List.map_toArray, List.map_cons, List.map_nil]); first | done | rfl | (simp only [List.length_drop, List.length_take]; rfl)) ?_; (with_reducible refine (limit_Admits.calls a0_0 a0_1 a0_2 a0_3 a0_4 0 a2 x190002_2 x190003_2 x190004_2 false _ A53.out).mono ?_); rintro e w81 ⟨rfl, hb⟩; refine ⟨_, rfl, ?_⟩; have n0_ := Aside0.mk (blk_below (g := gb187) (o := .cells #[.int .i64 a0_0, .int .i64 a0_1, .int .i64 a0_2, .int .i64 a0_3, .int .i64 a0_4] 23 (0, 0)) (by (with_reducible repeat (first | refine blk_drewN ?_ _ | refine blk_drew ?_ | refine blk_alloc ?_ _)); exact BK187.out) hb); have n1_ := Aside0.mk (blk_below (g := gb189) (o := .cells #[.int .i64 0, .int .i64 a2, .int .i64 x190002_2, .int .i64 x190003_2, .int .i64 x190004_2] 23 (0, 0)) (by (with_reducible repeat (first | refine blk_drewN ?_ _ | refine blk_drew ?_ | refine blk_alloc ?_ _)); exact BK189.out) hb); have n2_ := Aside0.mk (IsS40.below (by repeat (first | (with_reducible first | exact HI211.out | apply IsS40.alloc | apply IsS40.drewN | apply IsS40.drew | apply IsS40.set_0 | apply IsS40.set_1 | apply IsS40.set_2 | apply IsS40.set_3 | apply IsS40.set_4 | apply IsS40.set_5 | apply IsS40.set_6 | apply IsS40.set_7 | apply IsS40.set_8 | apply IsS40.set_9 | apply IsS40.set_10 | refine IsS40.far ?_ NB211_187.out _ | refine IsS40.far ?_ NB211_189.out _) | exact HI211.out)) hb); have n3_ := Aside0.mk (below_step (by repeat (first | (with_reducible first | exact HB.out | apply below_alloc | apply pw_below_drewN | apply below_drew1 | refine below_set ?_ (IsS40.ge HI211.out) | refine below_set ?_ GE187.out | refine below_set ?_ GE189.out) | exact HB.out)) hb); clear BK187; clear BK189; clear HI211; clear HB; have BK187 := n0_; have BK189 := n1_; have HI211 := n2_; have HB := n3_; clear n0_ n1_ n2_ n3_; (try clear hb); (try clear hb2); (try clear hk); (try clear hi)))
                          have n0_ := Aside0.mk (blk_drew BK187.out)
                          have n1_ := Aside0.mk (blk_drew BK189.out)
                          have n2_ := Aside0.mk (IsS40.drew HI211.out)
                          have n3_ := Aside0.mk (below_drew1 HB.out)
                          clear BK187
                          clear BK189
                          clear HI211
                          clear HB
                          have BK187 := n0_
                          have BK189 := n1_
                          have HI211 := n2_
                          have HB := n3_
                          clear n0_ n1_ n2_ n3_
                          refine start_ (n := 17) (S := fun w' => w'.cell? ⟨gb189, 0, none⟩ = some (.int .i64 0) ∧ w'.cell? ⟨gb189, 1, none⟩ = some (.int .i64 a2) ∧ w'.cell? ⟨gb189, 2, none⟩ = some (.int .i64 x190002_2) ∧ w'.cell? ⟨gb189, 3, none⟩ = some (.int .i64 x190003_2) ∧ w'.cell? ⟨gb189, 4, none⟩ = some (.int .i64 x190004_2)) (ds := []) #[false, false, false, false, false, false, false, false, false, false, false, false, false, false, false, false, false] (by kernel_rfl) rfl rfl ⟨(blk_cell BK189.out 0).trans rfl, (blk_cell BK189.out 1).trans rfl, (blk_cell BK189.out 2).trans rfl, (blk_cell BK189.out 3).trans rfl, (blk_cell BK189.out 4).trans rfl⟩ (fun hHeld => ?_); refine with_tabW decklelaw19_LimitEnough.tab27 decklelaw19_LimitEnough.bits27 (fun HT_ HW_ => ?_)
                          generalize w81.drew = w82 at BK187 BK189 HI211 HB hHeld ⊢
                          refine pure_ (i := 0) (N := some 125) (v := ?_) (a' := ?_) #[true, false, false, false, false, false, false, false, false, false, false, false, false, false, false, false, false] rfl rfl (any_of HT_.out (by kernel_rfl)) (fun _ _ _ h => h) (Or.inl ⟨by rfl, ?_⟩) ?_ ?_
                          rotate_left
                          · intro w'
                            go_simp
                            with_reducible rfl
                          rotate_left
                          · simp only [Act.put, List.setIfInBounds_toArray, List.set_cons_zero, List.set_cons_succ, i64_w, i32_w]
                            rfl
                          refine pure_ (i := 1) (N := some 126) (v := ?_) (a' := ?_) #[true, true, false, false, false, false, false, false, false, false, false, false, false, false, false, false, false] rfl rfl (any_of HT_.out (by kernel_rfl)) (fun _ _ _ h => h) (Or.inl ⟨by rfl, ?_⟩) ?_ ?_
                          rotate_left
                          · intro w'
                            go_simp
                            with_reducible rfl
                          rotate_left
                          · simp only [Act.put, List.setIfInBounds_toArray, List.set_cons_zero, List.set_cons_succ, i64_w, i32_w]
                            rfl
                          refine pure_ (i := 2) (N := some 127) (v := ?_) (a' := ?_) #[true, true, true, false, false, false, false, false, false, false, false, false, false, false, false, false, false] rfl rfl (any_of HT_.out (by kernel_rfl)) (fun _ _ _ h => h) (Or.inl ⟨by rfl, ?_⟩) ?_ ?_
                          rotate_left
                          · intro w'
                            go_simp
                            with_reducible rfl
                          rotate_left
                          · simp only [Act.put, List.setIfInBounds_toArray, List.set_cons_zero, List.set_cons_succ, i64_w, i32_w]
                            rfl
                          refine pure_ (i := 3) (N := some 128) (v := ?_) (a' := ?_) #[true, true, true, true, false, false, false, false, false, false, false, false, false, false, false, false, false] rfl rfl (any_of HT_.out (by kernel_rfl)) (fun _ _ _ h => h) (Or.inl ⟨by rfl, ?_⟩) ?_ ?_
                          rotate_left
                          · intro w'
                            go_simp
                            with_reducible rfl
                          rotate_left
                          · simp only [Act.put, List.setIfInBounds_toArray, List.set_cons_zero, List.set_cons_succ, i64_w, i32_w]
                            rfl
                          refine pure_ (i := 4) (N := some 129) (v := ?_) (a' := ?_) #[true, true, true, true, true, false, false, false, false, false, false, false, false, false, false, false, false] rfl rfl (any_of HT_.out (by kernel_rfl)) (fun _ _ _ h => h) (Or.inl ⟨by rfl, ?_⟩) ?_ ?_
                          rotate_left
                          · intro w'
                            go_simp
                            with_reducible rfl
                          rotate_left
                          · simp only [Act.put, List.setIfInBounds_toArray, List.set_cons_zero, List.set_cons_succ, i64_w, i32_w]
                            rfl
                          refine one_ (i := 5) (N := some 130) #[true, true, true, true, true, true, false, false, false, false, false, false, false, false, false, false, false] rfl rfl (one_of HT_.out (by kernel_rfl)) (by decide) (fun K hK => ?_)
                          refine goes_ Try.func16 (by kernel_rfl) rfl #[.pointer (some ⟨g211, 0, none⟩)] (by rfl) rfl rfl (by (try simp only [List.map_toArray, List.map_cons, List.map_nil]); first | done | rfl | (simp only [List.length_drop, List.length_take]; rfl)) ?_
                          with_reducible refine (limit_tally_Over.calls g211 t225 t226 t227 t228 t229 t230 t231 t232 t233 t234 t235 t265 t266 t267 t268 t269 t270 t271 t272 t273 t274 t275 t276 w _ ?side1 ?side2 A72.out).mono ?_
                          (case side1 => repeat (first | (with_reducible first | exact HI211.out | apply IsS40.alloc | apply IsS40.drewN | apply IsS40.drew | apply IsS40.set_0 | apply IsS40.set_1 | apply IsS40.set_2 | apply IsS40.set_3 | apply IsS40.set_4 | apply IsS40.set_5 | apply IsS40.set_6 | apply IsS40.set_7 | apply IsS40.set_8 | apply IsS40.set_9 | apply IsS40.set_10 | refine IsS40.far ?_ NB211_187.out _ | refine IsS40.far ?_ NB211_189.out _) | exact HI211.out))
                          (case side2 => repeat (first | (with_reducible first | exact HB.out | apply below_alloc | apply pw_below_drewN | apply below_drew1 | refine below_set ?_ (IsS40.ge HI211.out) | refine below_set ?_ GE187.out | refine below_set ?_ GE189.out) | exact HB.out))
                          rintro e w83 ⟨rfl, hi, hb, hk⟩
                          refine ⟨_, rfl, ?_⟩
                          have n0_ := Aside0.mk (KeepBut.blk hk (g' := gb187) (o := .cells #[.int .i64 a0_0, .int .i64 a0_1, .int .i64 a0_2, .int .i64 a0_3, .int .i64 a0_4] 23 (0, 0)) (by (with_reducible repeat (first | refine blk_drewN ?_ _ | refine blk_drew ?_ | refine blk_alloc ?_ _)); exact BK187.out) NB187_211.out (by simp))
                          have n1_ := Aside0.mk (KeepBut.blk hk (g' := gb189) (o := .cells #[.int .i64 0, .int .i64 a2, .int .i64 x190002_2, .int .i64 x190003_2, .int .i64 x190004_2] 23 (0, 0)) (by (with_reducible repeat (first | refine blk_drewN ?_ _ | refine blk_drew ?_ | refine blk_alloc ?_ _)); exact BK189.out) NB189_211.out (by simp))
                          have n2_ := Aside0.mk (hb)
                          have n3_ := Aside0.mk (hi)
                          clear BK187
                          clear BK189
                          clear HB
                          clear HI211
                          have BK187 := n0_
                          have BK189 := n1_
                          have HB := n2_
                          have HI211 := n3_
                          clear n0_ n1_ n2_ n3_
                          (try clear hb)
                          (try clear hb2)
                          (try clear hk)
                          (try clear hi)
                          refine hK.out _ _ ⟨(blk_cell BK189.out 0).trans rfl, (blk_cell BK189.out 1).trans rfl, (blk_cell BK189.out 2).trans rfl, (blk_cell BK189.out 3).trans rfl, (blk_cell BK189.out 4).trans rfl⟩ (fun hHeld => ?_)
                          clear hK K
                          refine norm_ (a' := ?_) ?_ ?_
                          rotate_left
                          · show Act.put _ (some 130) _ = _
                            simp only [Act.put, List.setIfInBounds_toArray, List.set_cons_zero, List.set_cons_succ, i64_w, i32_w]
                            rfl
                          refine pure_ (i := 6) (N := some 131) (v := ?_) (a' := ?_) #[true, true, true, true, true, true, true, false, false, false, false, false, false, false, false, false, false] rfl rfl (any_of HT_.out (by kernel_rfl)) (fun _ _ _ h => h) (Or.inl ⟨by rfl, ?_⟩) ?_ ?_
                          rotate_left
                          · intro w'
                            go_simp
                            with_reducible rfl
                          rotate_left
                          · simp only [Act.put, List.setIfInBounds_toArray, List.set_cons_zero, List.set_cons_succ, i64_w, i32_w]
                            rfl
                          refine pure_ (i := 7) (N := some 132) (v := ?_) (a' := ?_) #[true, true, true, true, true, true, true, true, false, false, false, false, false, false, false, false, false] rfl rfl (any_of HT_.out (by kernel_rfl)) (fun _ _ _ h => h) (Or.inl ⟨by rfl, ?_⟩) ?_ ?_
                          rotate_left
                          · intro w'
                            go_simp
                            with_reducible rfl
                          rotate_left
                          · simp only [Act.put, List.setIfInBounds_toArray, List.set_cons_zero, List.set_cons_succ, i64_w, i32_w]
                            rfl
                          refine pure_ (i := 8) (N := some 133) (v := ?_) (a' := ?_) #[true, true, true, true, true, true, true, true, true, false, false, false, false, false, false, false, false] rfl rfl (any_of HT_.out (by kernel_rfl)) (fun _ _ _ h => h) (Or.inl ⟨by rfl, ?_⟩) ?_ ?_
                          rotate_left
                          · intro w'
                            go_simp
                            with_reducible rfl
                          rotate_left
                          · simp only [Act.put, List.setIfInBounds_toArray, List.set_cons_zero, List.set_cons_succ, i64_w, i32_w]
                            rfl
                          refine pure_ (i := 9) (N := some 134) (v := ?_) (a' := ?_) #[true, true, true, true, true, true, true, true, true, true, false, false, false, false, false, false, false] rfl rfl (any_of HT_.out (by kernel_rfl)) (fun _ _ _ h => h) (Or.inl ⟨by rfl, ?_⟩) ?_ ?_
                          rotate_left
                          · intro w'
                            go_simp
                            with_reducible rfl
                          rotate_left
                          · simp only [Act.put, List.setIfInBounds_toArray, List.set_cons_zero, List.set_cons_succ, i64_w, i32_w]
                            rfl
                          refine pure_ (i := 10) (N := some 135) (v := ?_) (a' := ?_) #[true, true, true, true, true, true, true, true, true, true, true, false, false, false, false, false, false] rfl rfl (any_of HT_.out (by kernel_rfl)) (fun _ _ _ h => h) (Or.inl ⟨by rfl, ?_⟩) ?_ ?_
                          rotate_left
                          · intro w'
                            go_simp
                            with_reducible rfl
                          rotate_left
                          · simp only [Act.put, List.setIfInBounds_toArray, List.set_cons_zero, List.set_cons_succ, i64_w, i32_w]
                            rfl
                          refine pure_ (i := 11) (N := some 136) (v := ?_) (a' := ?_) #[true, true, true, true, true, true, true, true, true, true, true, true, false, false, false, false, false] rfl rfl (any_of HT_.out (by kernel_rfl)) (fun _ _ _ h => h) (Or.inl ⟨by rfl, ?_⟩) ?_ ?_
                          rotate_left
                          · intro w'
                            go_simp
                            with_reducible rfl
                          rotate_left
                          · simp only [Act.put, List.setIfInBounds_toArray, List.set_cons_zero, List.set_cons_succ, i64_w, i32_w]
                            rfl
                          refine take_ (i := 13) (N := some 138) (v := ?_) (a' := ?_) #[true, true, true, true, true, true, true, true, true, true, true, true, false, true, false, false, false] rfl rfl (take_ofW HT_.out HW_.out (by kernel_rfl)) (fun _ _ _ h => h) (Or.inl ⟨by rfl, ?_⟩) hHeld ?_ ?_
                          rotate_left
                          · rintro w' ⟨s0, s1, s2, s3, s4⟩
                            go_simp
                            with_reducible rfl
                          rotate_left
                          · simp only [Act.put, List.setIfInBounds_toArray, List.set_cons_zero, List.set_cons_succ, i64_w, i32_w]
                            rfl
                          refine one_ (i := 12) (N := some 137) #[true, true, true, true, true, true, true, true, true, true, true, true, true, true, false, false, false] rfl rfl (one_of HT_.out (by kernel_rfl)) (by decide) (fun K hK => ?_)
                          refine goes_ Try.func14 (by kernel_rfl) rfl #[.pointer (some ⟨g211, 0, none⟩)] (by rfl) rfl rfl (by (try simp only [List.map_toArray, List.map_cons, List.map_nil]); first | done | rfl | (simp only [List.length_drop, List.length_take]; rfl)) ?_
                          with_reducible refine (limit_tally_Used.calls g211 t266 t267 t268 t269 t270 t271 t272 t273 t274 t275 t276 t277 t278 t279 t280 t281 t282 t283 t284 t285 t286 t287 t288 t289 t290 t291 t292 w _ ?side1 ?side2 A74.out).mono ?_
                          (case side1 => repeat (first | (with_reducible first | exact HI211.out | apply IsS40.alloc | apply IsS40.drewN | apply IsS40.drew | apply IsS40.set_0 | apply IsS40.set_1 | apply IsS40.set_2 | apply IsS40.set_3 | apply IsS40.set_4 | apply IsS40.set_5 | apply IsS40.set_6 | apply IsS40.set_7 | apply IsS40.set_8 | apply IsS40.set_9 | apply IsS40.set_10 | refine IsS40.far ?_ NB211_187.out _ | refine IsS40.far ?_ NB211_189.out _) | exact HI211.out))
                          (case side2 => repeat (first | (with_reducible first | exact HB.out | apply below_alloc | apply pw_below_drewN | apply below_drew1 | refine below_set ?_ (IsS40.ge HI211.out) | refine below_set ?_ GE187.out | refine below_set ?_ GE189.out) | exact HB.out))
                          rintro e w84 ⟨rfl, hi, hb, hk⟩
                          refine ⟨_, rfl, ?_⟩
                          have n0_ := Aside0.mk (KeepBut.blk hk (g' := gb187) (o := .cells #[.int .i64 a0_0, .int .i64 a0_1, .int .i64 a0_2, .int .i64 a0_3, .int .i64 a0_4] 23 (0, 0)) (by (with_reducible repeat (first | refine blk_drewN ?_ _ | refine blk_drew ?_ | refine blk_alloc ?_ _)); exact BK187.out) NB187_211.out (by simp))
                          have n1_ := Aside0.mk (KeepBut.blk hk (g' := gb189) (o := .cells #[.int .i64 0, .int .i64 a2, .int .i64 x190002_2, .int .i64 x190003_2, .int .i64 x190004_2] 23 (0, 0)) (by (with_reducible repeat (first | refine blk_drewN ?_ _ | refine blk_drew ?_ | refine blk_alloc ?_ _)); exact BK189.out) NB189_211.out (by simp))
                          have n2_ := Aside0.mk (hb)
                          have n3_ := Aside0.mk (hi)
                          clear BK187
                          clear BK189
                          clear HB
                          clear HI211
                          have BK187 := n0_
                          have BK189 := n1_
                          have HB := n2_
                          have HI211 := n3_
                          clear n0_ n1_ n2_ n3_
                          (try clear hb)
                          (try clear hb2)
                          (try clear hk)
                          (try clear hi)
                          refine hK.out _ _ ⟨(blk_cell BK189.out 0).trans rfl, (blk_cell BK189.out 1).trans rfl, (blk_cell BK189.out 2).trans rfl, (blk_cell BK189.out 3).trans rfl, (blk_cell BK189.out 4).trans rfl⟩ (fun hHeld => ?_)
                          clear hK K
                          refine norm_ (a' := ?_) ?_ ?_
                          rotate_left
                          · show Act.put _ (some 137) _ = _
                            simp only [Act.put, List.setIfInBounds_toArray, List.set_cons_zero, List.set_cons_succ, i64_w, i32_w]
                            rfl
                          refine pure_ (i := 14) (N := some 139) (v := ?_) (a' := ?_) #[true, true, true, true, true, true, true, true, true, true, true, true, true, true, true, false, false] rfl rfl (any_of HT_.out (by kernel_rfl)) (fun _ _ _ h => h) (Or.inl ⟨by rfl, ?_⟩) ?_ ?_
                          rotate_left
                          · intro w'
                            go_simp
                            with_reducible rfl
                          rotate_left
                          · simp only [Act.put, List.setIfInBounds_toArray, List.set_cons_zero, List.set_cons_succ, i64_w, i32_w]
                            rfl
                          refine pure_ (i := 15) (N := some 140) (v := ?_) (a' := ?_) #[true, true, true, true, true, true, true, true, true, true, true, true, true, true, true, true, false] rfl rfl (any_of HT_.out (by kernel_rfl)) (fun _ _ _ h => h) (Or.inl ⟨by rfl, ?_⟩) ?_ ?_
                          rotate_left
                          · intro w'
                            go_simp
                            with_reducible rfl
                          rotate_left
                          · simp only [Act.put, List.setIfInBounds_toArray, List.set_cons_zero, List.set_cons_succ, i64_w, i32_w]
                            rfl
                          refine pure_ (i := 16) (N := some 6) (v := ?_) (a' := ?_) #[true, true, true, true, true, true, true, true, true, true, true, true, true, true, true, true, true] rfl rfl (any_of HT_.out (by kernel_rfl)) (fun _ _ _ h => h) (Or.inl ⟨by rfl, ?_⟩) ?_ ?_
                          rotate_left
                          · intro w'
                            go_simp
                            with_reducible rfl
                          rotate_left
                          · simp only [Act.put, List.setIfInBounds_toArray, List.set_cons_zero, List.set_cons_succ, i64_w, i32_w]
                            rfl
                          refine done_ (done_of HT_.out (by kernel_rfl)) ?_
                          try go_wp2
                          go_ret
                          exact ⟨by first | rfl | (simp [errW_none, errW_some] <;> rfl) | (simp [*, errW_none, errW_some] <;> rfl), by repeat (first | (with_reducible first | exact HB.out | apply below_alloc | apply pw_below_drewN | apply below_drew1 | refine below_set ?_ (IsS40.ge HI211.out) | refine below_set ?_ GE187.out | refine below_set ?_ GE189.out) | exact HB.out)⟩
                      · replace c71 := Bool.eq_false_iff.mpr c71
                        subst c71
                        have H1 : (none) = some r := by rw [if_neg (show ¬ (false = true) by decide)] at H; exact H
                        clear H
                        have H := H1
                        clear H1
                        exact absurd H (by simp)

end Go.Proofs.Ytaonclkhjcbgoaa.HLimitEnough
