-- Written by the session's program hy.py.
import Derived.Test.YtgegbiknohjpgaaHCursorCutsx0
import Derived.Test.YtgegbiknohjpgaaHCursorCutsx1
import Derived.Test.YtgegbiknohjpgaaHCursorCutsx2
import Derived.Test.YtgegbiknohjpgaaHCursorCutsx3
namespace Go.Proofs.Ytgegbiknohjpgaa.HCursorCuts
open Go.RowKit Go.Proofs.YtgegbiknohjpgaaW.PrintWords Go.Proofs.YtgegbiknohjpgaaW.PrintLast Go.Proofs.YtgegbiknohjpgaaW.PrintMore
attribute [local go_sem] max2_int min2_int max_two min_two max_three min_three max_four min_four   -- for this text's walks alone
set_option linter.unusedVariables false
set_option linter.unusedSimpArgs false

attribute [local go_sem high] eqA31
/-! ### decklelaw04_small: function 8 -/
def decklelaw04_small.f (k : Nat)  : Option (Bool) := (cursor_Open.f (([5, 172, 2, 128] : List Int)) 10).bind fun bt166 => ((cursor_Open.f (([9, 9] : List Int)) (-3)).bind fun bt175 => ((cursor_Cursor_Byte.f bt166.1 bt166.2.1 bt166.2.2.1 bt166.2.2.2.1 bt166.2.2.2.2).bind fun bt181 => ((cursor_Cursor_Num.f k bt181.2.1 bt181.2.2.1 bt181.2.2.2.1 bt181.2.2.2.2.1 bt181.2.2.2.2.2 300).bind fun bt187 => ((cursor_Cursor_Num.f k bt187.2.1 bt187.2.2.1 bt187.2.2.2.1 bt187.2.2.2.2.1 bt187.2.2.2.2.2 9).bind fun bt193 => ((cursor_place_Fault.f bt193.2.1 bt193.2.2.1 bt193.2.2.2.1 bt193.2.2.2.2.1 bt193.2.2.2.2.2).bind fun bt199 => ((cursor_Cursor_Num.f k bt175.1 bt175.2.1 bt175.2.2.1 bt175.2.2.2.1 bt175.2.2.2.2 8).bind fun bt208 => (if bt181.1 = 5 then (if bt187.1 = 300 then (if bt193.1 = 0 then (if (bt199.1 == 2 && (bt199.2.1 == 0 && (bt199.2.2.1 == 13))) = true then ((cursor_place_At.f bt199.2.2.2.1 bt199.2.2.2.2.1 bt199.2.2.2.2.2.1 bt199.2.2.2.2.2.2.1 bt199.2.2.2.2.2.2.2).bind fun bt214 => (if bt214.1 = 13 then ((cursor_Cursor_Left.f bt214.2.1 bt214.2.2.1 bt214.2.2.2.1 bt214.2.2.2.2.1 bt214.2.2.2.2.2).bind fun bt220 => (if bt220.1 = 0 then ((cursor_Cursor_End.f bt220.2.1 bt220.2.2.1 bt220.2.2.2.1 bt220.2.2.2.2.1 bt220.2.2.2.2.2).bind fun bt226 => (if (bt226.1 == bt199.1 && (bt226.2.1 == bt199.2.1 && (bt226.2.2.1 == bt199.2.2.1))) = true then (if bt208.1 = 0 then ((cursor_place_Fault.f bt208.2.1 bt208.2.2.1 bt208.2.2.2.1 bt208.2.2.2.2.1 bt208.2.2.2.2.2).bind fun bt234 => (some (bt234.1 == 3 && (bt234.2.1 == 0 && (bt234.2.2.1 == 0))))) else (none)) else (none))) else (none))) else (none))) else (none)) else (none)) else (none)) else (none))))))))
theorem decklelaw04_small.mono : ∀ k, LeO (decklelaw04_small.f k ) (decklelaw04_small.f (k + 1) ) := by
  intro  k
  unfold decklelaw04_small.f
  repeat' first
      | (with_reducible exact cursor_Cursor_Num.mono _ _ _ _ _ _ _)
      | (with_reducible exact LeO.refl _)
      | (with_reducible exact LeO.none _)
      | (with_reducible refine LeO.ite ?_ ?_)
      | (with_reducible refine LeO.bind ?_ (fun _ => ?_))
      | exact cursor_Cursor_Num.mono _ _ _ _ _ _ _
      | exact LeO.none _
      | refine LeO.ite ?_ ?_
      | refine LeO.bind ?_ (fun _ => ?_)
def decklelaw04_small.T10 : Bool × List (List Nat × List Nat) := (true, [([], []), ([0], [0]), ([1], [1]), ([2], [2]), ([3, 2], [2, 3]), ([2, 4], [2, 4]), ([5, 2], [5]), ([6], [6]), ([7, 6], [6, 7]), ([6, 8], [6, 8]), ([9, 6], [9]), ([10], [10]), ([10], [10]), ([11, 12, 10], [10, 11, 12]), ([10, 13], [10, 13]), ([14, 10], [14]), ([15], [15]), ([16, 15], [15, 16]), ([17, 15], [15, 17]), ([18, 15, 15], [15, 18]), ([19, 15], [15, 19]), ([15, 20], [15, 20]), ([21, 19], [21]), ([22], [22]), ([23, 22, 22], [22, 23]), ([24, 22], [22, 24]), ([22, 25], [22, 25]), ([26, 24], [26]), ([27], [27]), ([28, 27, 27], [27, 28]), ([27], [27]), ([29, 30, 27], [27, 29, 30]), ([27, 31], [27, 31]), ([32, 29], [32]), ([33], [33]), ([34, 33], [33, 34]), ([33, 35], [33, 35]), ([36, 33], [36]), ([37], [37]), ([38, 37], [37, 38]), ([39, 37], [37, 39]), ([40, 37, 37], [37, 40]), ([37], [37]), ([41, 42, 37], [37, 41, 42]), ([37, 43], [37, 43]), ([44, 41, 0, 1, 2, 3, 4, 5, 6, 7, 8, 9, 10, 11, 12, 13, 14, 15, 16, 17, 18, 19, 20, 21, 22, 23, 24, 25, 26, 27, 28, 29, 30, 31, 32, 33, 34, 35, 36, 37, 38, 39, 40, 41, 42, 43, 44], [44])])
def decklelaw04_small.B10 : List Nat := [0, 1, 3, 7, 15, 31, 63, 127, 255, 511, 1023, 2047, 2047, 8191, 16383, 32767, 65535, 131071, 262143, 524287, 1048575, 2097151, 4194303, 8388607, 16777215, 33554431, 67108863, 134217727, 268435455, 536870911, 268435455, 2147483647, 4294967295, 8589934591, 17179869183, 34359738367, 68719476735, 137438953471, 274877906943, 549755813887, 1099511627775, 2199023255551, 274877906943, 8796093022207, 17592186044415, 35184372088831]
theorem decklelaw04_small.tab10 : rtab .any (opsOf Try.f8 10) = decklelaw04_small.T10 := by kernel_rfl
theorem decklelaw04_small.bits10 : waitsOk decklelaw04_small.T10.2 decklelaw04_small.B10 = true := by kernel_rfl
set_option maxHeartbeats 8000000 in
set_option maxRecDepth 100000 in
theorem decklelaw04_small.calls (k : Nat)  (r : Bool) (w : World) (h : decklelaw04_small.f k  = some r) :
    Calls Try.prog 8 #[] w fun e w' => e = .returned (.bool r) ∧ Below w.heap.size w w' := by
  have hu31 := Try.underlying31
  have HB := Aside0.mk (Below.refl w.heap.size w)
  have H : ((cursor_Open.f (([5, 172, 2, 128] : List Int)) 10).bind fun bt166 => ((cursor_Open.f (([9, 9] : List Int)) (-3)).bind fun bt175 => ((cursor_Cursor_Byte.f bt166.1 bt166.2.1 bt166.2.2.1 bt166.2.2.2.1 bt166.2.2.2.2).bind fun bt181 => ((cursor_Cursor_Num.f k bt181.2.1 bt181.2.2.1 bt181.2.2.2.1 bt181.2.2.2.2.1 bt181.2.2.2.2.2 300).bind fun bt187 => ((cursor_Cursor_Num.f k bt187.2.1 bt187.2.2.1 bt187.2.2.2.1 bt187.2.2.2.2.1 bt187.2.2.2.2.2 9).bind fun bt193 => ((cursor_place_Fault.f bt193.2.1 bt193.2.2.1 bt193.2.2.2.1 bt193.2.2.2.2.1 bt193.2.2.2.2.2).bind fun bt199 => ((cursor_Cursor_Num.f k bt175.1 bt175.2.1 bt175.2.2.1 bt175.2.2.2.1 bt175.2.2.2.2 8).bind fun bt208 => (if bt181.1 = 5 then (if bt187.1 = 300 then (if bt193.1 = 0 then (if (bt199.1 == 2 && (bt199.2.1 == 0 && (bt199.2.2.1 == 13))) = true then ((cursor_place_At.f bt199.2.2.2.1 bt199.2.2.2.2.1 bt199.2.2.2.2.2.1 bt199.2.2.2.2.2.2.1 bt199.2.2.2.2.2.2.2).bind fun bt214 => (if bt214.1 = 13 then ((cursor_Cursor_Left.f bt214.2.1 bt214.2.2.1 bt214.2.2.2.1 bt214.2.2.2.2.1 bt214.2.2.2.2.2).bind fun bt220 => (if bt220.1 = 0 then ((cursor_Cursor_End.f bt220.2.1 bt220.2.2.1 bt220.2.2.2.1 bt220.2.2.2.2.1 bt220.2.2.2.2.2).bind fun bt226 => (if (bt226.1 == bt199.1 && (bt226.2.1 == bt199.2.1 && (bt226.2.2.1 == bt199.2.2.1))) = true then (if bt208.1 = 0 then ((cursor_place_Fault.f bt208.2.1 bt208.2.2.1 bt208.2.2.2.1 bt208.2.2.2.2.1 bt208.2.2.2.2.2).bind fun bt234 => (some (bt234.1 == 3 && (bt234.2.1 == 0 && (bt234.2.2.1 == 0))))) else (none)) else (none))) else (none))) else (none))) else (none)) else (none)) else (none)) else (none))))))))) = some r := h
  clear h
  obtain ⟨y163, hy163⟩ : ∃ y_ : List Int, y_ = (([5, 172, 2, 128] : List Int)) := ⟨_, rfl⟩
  replace H : ((cursor_Open.f y163 10).bind fun bt166 => ((cursor_Open.f (([9, 9] : List Int)) (-3)).bind fun bt175 => ((cursor_Cursor_Byte.f bt166.1 bt166.2.1 bt166.2.2.1 bt166.2.2.2.1 bt166.2.2.2.2).bind fun bt181 => ((cursor_Cursor_Num.f k bt181.2.1 bt181.2.2.1 bt181.2.2.2.1 bt181.2.2.2.2.1 bt181.2.2.2.2.2 300).bind fun bt187 => ((cursor_Cursor_Num.f k bt187.2.1 bt187.2.2.1 bt187.2.2.2.1 bt187.2.2.2.2.1 bt187.2.2.2.2.2 9).bind fun bt193 => ((cursor_place_Fault.f bt193.2.1 bt193.2.2.1 bt193.2.2.2.1 bt193.2.2.2.2.1 bt193.2.2.2.2.2).bind fun bt199 => ((cursor_Cursor_Num.f k bt175.1 bt175.2.1 bt175.2.2.1 bt175.2.2.2.1 bt175.2.2.2.2 8).bind fun bt208 => (if bt181.1 = 5 then (if bt187.1 = 300 then (if bt193.1 = 0 then (if (bt199.1 == 2 && (bt199.2.1 == 0 && (bt199.2.2.1 == 13))) = true then ((cursor_place_At.f bt199.2.2.2.1 bt199.2.2.2.2.1 bt199.2.2.2.2.2.1 bt199.2.2.2.2.2.2.1 bt199.2.2.2.2.2.2.2).bind fun bt214 => (if bt214.1 = 13 then ((cursor_Cursor_Left.f bt214.2.1 bt214.2.2.1 bt214.2.2.2.1 bt214.2.2.2.2.1 bt214.2.2.2.2.2).bind fun bt220 => (if bt220.1 = 0 then ((cursor_Cursor_End.f bt220.2.1 bt220.2.2.1 bt220.2.2.2.1 bt220.2.2.2.2.1 bt220.2.2.2.2.2).bind fun bt226 => (if (bt226.1 == bt199.1 && (bt226.2.1 == bt199.2.1 && (bt226.2.2.1 == bt199.2.2.1))) = true then (if bt208.1 = 0 then ((cursor_place_Fault.f bt208.2.1 bt208.2.2.1 bt208.2.2.2.1 bt208.2.2.2.2.1 bt208.2.2.2.2.2).bind fun bt234 => (some (bt234.1 == 3 && (bt234.2.1 == 0 && (bt234.2.2.1 == 0))))) else (none)) else (none))) else (none))) else (none))) else (none)) else (none)) else (none)) else (none))))))))) = some r := by first | (rw [hy163]; with_reducible exact H) | (have H2_ := (Option.bind_some _ _).symm.trans H; rw [hy163]; with_reducible exact H2_) | (have H2_ := (Option.bind_some _ _).symm.trans H; with_reducible exact H2_) | with_reducible exact H | (rw [hy163]; exact H) | exact H
  have Ny163 := Aside0.mk hy163
  clear hy163
  replace H := Option.bind_eq_some_iff.mp H
  obtain ⟨⟨t166, t167, t168, t169, t170⟩, A10, H⟩ := H
  replace H : ((cursor_Open.f (([9, 9] : List Int)) (-3)).bind fun bt175 => ((cursor_Cursor_Byte.f t166 t167 t168 t169 t170).bind fun bt181 => ((cursor_Cursor_Num.f k bt181.2.1 bt181.2.2.1 bt181.2.2.2.1 bt181.2.2.2.2.1 bt181.2.2.2.2.2 300).bind fun bt187 => ((cursor_Cursor_Num.f k bt187.2.1 bt187.2.2.1 bt187.2.2.2.1 bt187.2.2.2.2.1 bt187.2.2.2.2.2 9).bind fun bt193 => ((cursor_place_Fault.f bt193.2.1 bt193.2.2.1 bt193.2.2.2.1 bt193.2.2.2.2.1 bt193.2.2.2.2.2).bind fun bt199 => ((cursor_Cursor_Num.f k bt175.1 bt175.2.1 bt175.2.2.1 bt175.2.2.2.1 bt175.2.2.2.2 8).bind fun bt208 => (if bt181.1 = 5 then (if bt187.1 = 300 then (if bt193.1 = 0 then (if (bt199.1 == 2 && (bt199.2.1 == 0 && (bt199.2.2.1 == 13))) = true then ((cursor_place_At.f bt199.2.2.2.1 bt199.2.2.2.2.1 bt199.2.2.2.2.2.1 bt199.2.2.2.2.2.2.1 bt199.2.2.2.2.2.2.2).bind fun bt214 => (if bt214.1 = 13 then ((cursor_Cursor_Left.f bt214.2.1 bt214.2.2.1 bt214.2.2.2.1 bt214.2.2.2.2.1 bt214.2.2.2.2.2).bind fun bt220 => (if bt220.1 = 0 then ((cursor_Cursor_End.f bt220.2.1 bt220.2.2.1 bt220.2.2.2.1 bt220.2.2.2.2.1 bt220.2.2.2.2.2).bind fun bt226 => (if (bt226.1 == bt199.1 && (bt226.2.1 == bt199.2.1 && (bt226.2.2.1 == bt199.2.2.1))) = true then (if bt208.1 = 0 then ((cursor_place_Fault.f bt208.2.1 bt208.2.2.1 bt208.2.2.2.1 bt208.2.2.2.2.1 bt208.2.2.2.2.2).bind fun bt234 => (some (bt234.1 == 3 && (bt234.2.1 == 0 && (bt234.2.2.1 == 0))))) else (none)) else (none))) else (none))) else (none))) else (none)) else (none)) else (none)) else (none)))))))) = some r := H
  have A1 := Aside0.mk A10
  clear A10
  obtain ⟨y172, hy172⟩ : ∃ y_ : List Int, y_ = (([9, 9] : List Int)) := ⟨_, rfl⟩
  replace H : ((cursor_Open.f y172 (-3)).bind fun bt175 => ((cursor_Cursor_Byte.f t166 t167 t168 t169 t170).bind fun bt181 => ((cursor_Cursor_Num.f k bt181.2.1 bt181.2.2.1 bt181.2.2.2.1 bt181.2.2.2.2.1 bt181.2.2.2.2.2 300).bind fun bt187 => ((cursor_Cursor_Num.f k bt187.2.1 bt187.2.2.1 bt187.2.2.2.1 bt187.2.2.2.2.1 bt187.2.2.2.2.2 9).bind fun bt193 => ((cursor_place_Fault.f bt193.2.1 bt193.2.2.1 bt193.2.2.2.1 bt193.2.2.2.2.1 bt193.2.2.2.2.2).bind fun bt199 => ((cursor_Cursor_Num.f k bt175.1 bt175.2.1 bt175.2.2.1 bt175.2.2.2.1 bt175.2.2.2.2 8).bind fun bt208 => (if bt181.1 = 5 then (if bt187.1 = 300 then (if bt193.1 = 0 then (if (bt199.1 == 2 && (bt199.2.1 == 0 && (bt199.2.2.1 == 13))) = true then ((cursor_place_At.f bt199.2.2.2.1 bt199.2.2.2.2.1 bt199.2.2.2.2.2.1 bt199.2.2.2.2.2.2.1 bt199.2.2.2.2.2.2.2).bind fun bt214 => (if bt214.1 = 13 then ((cursor_Cursor_Left.f bt214.2.1 bt214.2.2.1 bt214.2.2.2.1 bt214.2.2.2.2.1 bt214.2.2.2.2.2).bind fun bt220 => (if bt220.1 = 0 then ((cursor_Cursor_End.f bt220.2.1 bt220.2.2.1 bt220.2.2.2.1 bt220.2.2.2.2.1 bt220.2.2.2.2.2).bind fun bt226 => (if (bt226.1 == bt199.1 && (bt226.2.1 == bt199.2.1 && (bt226.2.2.1 == bt199.2.2.1))) = true then (if bt208.1 = 0 then ((cursor_place_Fault.f bt208.2.1 bt208.2.2.1 bt208.2.2.2.1 bt208.2.2.2.2.1 bt208.2.2.2.2.2).bind fun bt234 => (some (bt234.1 == 3 && (bt234.2.1 == 0 && (bt234.2.2.1 == 0))))) else (none)) else (none))) else (none))) else (none))) else (none)) else (none)) else (none)) else (none)))))))) = some r := by first | (rw [hy172]; with_reducible exact H) | (have H2_ := (Option.bind_some _ _).symm.trans H; rw [hy172]; with_reducible exact H2_) | (have H2_ := (Option.bind_some _ _).symm.trans H; with_reducible exact H2_) | with_reducible exact H | (rw [hy172]; exact H) | exact H
  have Ny172 := Aside0.mk hy172
  clear hy172
  replace H := Option.bind_eq_some_iff.mp H
  obtain ⟨⟨t175, t176, t177, t178, t179⟩, A20, H⟩ := H
  replace H : ((cursor_Cursor_Byte.f t166 t167 t168 t169 t170).bind fun bt181 => ((cursor_Cursor_Num.f k bt181.2.1 bt181.2.2.1 bt181.2.2.2.1 bt181.2.2.2.2.1 bt181.2.2.2.2.2 300).bind fun bt187 => ((cursor_Cursor_Num.f k bt187.2.1 bt187.2.2.1 bt187.2.2.2.1 bt187.2.2.2.2.1 bt187.2.2.2.2.2 9).bind fun bt193 => ((cursor_place_Fault.f bt193.2.1 bt193.2.2.1 bt193.2.2.2.1 bt193.2.2.2.2.1 bt193.2.2.2.2.2).bind fun bt199 => ((cursor_Cursor_Num.f k t175 t176 t177 t178 t179 8).bind fun bt208 => (if bt181.1 = 5 then (if bt187.1 = 300 then (if bt193.1 = 0 then (if (bt199.1 == 2 && (bt199.2.1 == 0 && (bt199.2.2.1 == 13))) = true then ((cursor_place_At.f bt199.2.2.2.1 bt199.2.2.2.2.1 bt199.2.2.2.2.2.1 bt199.2.2.2.2.2.2.1 bt199.2.2.2.2.2.2.2).bind fun bt214 => (if bt214.1 = 13 then ((cursor_Cursor_Left.f bt214.2.1 bt214.2.2.1 bt214.2.2.2.1 bt214.2.2.2.2.1 bt214.2.2.2.2.2).bind fun bt220 => (if bt220.1 = 0 then ((cursor_Cursor_End.f bt220.2.1 bt220.2.2.1 bt220.2.2.2.1 bt220.2.2.2.2.1 bt220.2.2.2.2.2).bind fun bt226 => (if (bt226.1 == bt199.1 && (bt226.2.1 == bt199.2.1 && (bt226.2.2.1 == bt199.2.2.1))) = true then (if bt208.1 = 0 then ((cursor_place_Fault.f bt208.2.1 bt208.2.2.1 bt208.2.2.2.1 bt208.2.2.2.2.1 bt208.2.2.2.2.2).bind fun bt234 => (some (bt234.1 == 3 && (bt234.2.1 == 0 && (bt234.2.2.1 == 0))))) else (none)) else (none))) else (none))) else (none))) else (none)) else (none)) else (none)) else (none))))))) = some r := H
  have A2 := Aside0.mk A20
  clear A20
  replace H := Option.bind_eq_some_iff.mp H
  obtain ⟨⟨t181, t182, t183, t184, t185, t186⟩, A30, H⟩ := H
  replace H : ((cursor_Cursor_Num.f k t182 t183 t184 t185 t186 300).bind fun bt187 => ((cursor_Cursor_Num.f k bt187.2.1 bt187.2.2.1 bt187.2.2.2.1 bt187.2.2.2.2.1 bt187.2.2.2.2.2 9).bind fun bt193 => ((cursor_place_Fault.f bt193.2.1 bt193.2.2.1 bt193.2.2.2.1 bt193.2.2.2.2.1 bt193.2.2.2.2.2).bind fun bt199 => ((cursor_Cursor_Num.f k t175 t176 t177 t178 t179 8).bind fun bt208 => (if t181 = 5 then (if bt187.1 = 300 then (if bt193.1 = 0 then (if (bt199.1 == 2 && (bt199.2.1 == 0 && (bt199.2.2.1 == 13))) = true then ((cursor_place_At.f bt199.2.2.2.1 bt199.2.2.2.2.1 bt199.2.2.2.2.2.1 bt199.2.2.2.2.2.2.1 bt199.2.2.2.2.2.2.2).bind fun bt214 => (if bt214.1 = 13 then ((cursor_Cursor_Left.f bt214.2.1 bt214.2.2.1 bt214.2.2.2.1 bt214.2.2.2.2.1 bt214.2.2.2.2.2).bind fun bt220 => (if bt220.1 = 0 then ((cursor_Cursor_End.f bt220.2.1 bt220.2.2.1 bt220.2.2.2.1 bt220.2.2.2.2.1 bt220.2.2.2.2.2).bind fun bt226 => (if (bt226.1 == bt199.1 && (bt226.2.1 == bt199.2.1 && (bt226.2.2.1 == bt199.2.2.1))) = true then (if bt208.1 = 0 then ((cursor_place_Fault.f bt208.2.1 bt208.2.2.1 bt208.2.2.2.1 bt208.2.2.2.2.1 bt208.2.2.2.2.2).bind fun bt234 => (some (bt234.1 == 3 && (bt234.2.1 == 0 && (bt234.2.2.1 == 0))))) else (none)) else (none))) else (none))) else (none))) else (none)) else (none)) else (none)) else (none)))))) = some r := H
  have A3 := Aside0.mk A30
  clear A30
  replace H := Option.bind_eq_some_iff.mp H
  obtain ⟨⟨t187, t188, t189, t190, t191, t192⟩, A40, H⟩ := H
  replace H : ((cursor_Cursor_Num.f k t188 t189 t190 t191 t192 9).bind fun bt193 => ((cursor_place_Fault.f bt193.2.1 bt193.2.2.1 bt193.2.2.2.1 bt193.2.2.2.2.1 bt193.2.2.2.2.2).bind fun bt199 => ((cursor_Cursor_Num.f k t175 t176 t177 t178 t179 8).bind fun bt208 => (if t181 = 5 then (if t187 = 300 then (if bt193.1 = 0 then (if (bt199.1 == 2 && (bt199.2.1 == 0 && (bt199.2.2.1 == 13))) = true then ((cursor_place_At.f bt199.2.2.2.1 bt199.2.2.2.2.1 bt199.2.2.2.2.2.1 bt199.2.2.2.2.2.2.1 bt199.2.2.2.2.2.2.2).bind fun bt214 => (if bt214.1 = 13 then ((cursor_Cursor_Left.f bt214.2.1 bt214.2.2.1 bt214.2.2.2.1 bt214.2.2.2.2.1 bt214.2.2.2.2.2).bind fun bt220 => (if bt220.1 = 0 then ((cursor_Cursor_End.f bt220.2.1 bt220.2.2.1 bt220.2.2.2.1 bt220.2.2.2.2.1 bt220.2.2.2.2.2).bind fun bt226 => (if (bt226.1 == bt199.1 && (bt226.2.1 == bt199.2.1 && (bt226.2.2.1 == bt199.2.2.1))) = true then (if bt208.1 = 0 then ((cursor_place_Fault.f bt208.2.1 bt208.2.2.1 bt208.2.2.2.1 bt208.2.2.2.2.1 bt208.2.2.2.2.2).bind fun bt234 => (some (bt234.1 == 3 && (bt234.2.1 == 0 && (bt234.2.2.1 == 0))))) else (none)) else (none))) else (none))) else (none))) else (none)) else (none)) else (none)) else (none))))) = some r := H
  have A4 := Aside0.mk A40
  clear A40
  replace H := Option.bind_eq_some_iff.mp H
  obtain ⟨⟨t193, t194, t195, t196, t197, t198⟩, A50, H⟩ := H
  replace H : ((cursor_place_Fault.f t194 t195 t196 t197 t198).bind fun bt199 => ((cursor_Cursor_Num.f k t175 t176 t177 t178 t179 8).bind fun bt208 => (if t181 = 5 then (if t187 = 300 then (if t193 = 0 then (if (bt199.1 == 2 && (bt199.2.1 == 0 && (bt199.2.2.1 == 13))) = true then ((cursor_place_At.f bt199.2.2.2.1 bt199.2.2.2.2.1 bt199.2.2.2.2.2.1 bt199.2.2.2.2.2.2.1 bt199.2.2.2.2.2.2.2).bind fun bt214 => (if bt214.1 = 13 then ((cursor_Cursor_Left.f bt214.2.1 bt214.2.2.1 bt214.2.2.2.1 bt214.2.2.2.2.1 bt214.2.2.2.2.2).bind fun bt220 => (if bt220.1 = 0 then ((cursor_Cursor_End.f bt220.2.1 bt220.2.2.1 bt220.2.2.2.1 bt220.2.2.2.2.1 bt220.2.2.2.2.2).bind fun bt226 => (if (bt226.1 == bt199.1 && (bt226.2.1 == bt199.2.1 && (bt226.2.2.1 == bt199.2.2.1))) = true then (if bt208.1 = 0 then ((cursor_place_Fault.f bt208.2.1 bt208.2.2.1 bt208.2.2.2.1 bt208.2.2.2.2.1 bt208.2.2.2.2.2).bind fun bt234 => (some (bt234.1 == 3 && (bt234.2.1 == 0 && (bt234.2.2.1 == 0))))) else (none)) else (none))) else (none))) else (none))) else (none)) else (none)) else (none)) else (none)))) = some r := H
  have A5 := Aside0.mk A50
  clear A50
  replace H := Option.bind_eq_some_iff.mp H
  obtain ⟨⟨t199, t200, t201, t202, t203, t204, t205, t206⟩, A60, H⟩ := H
  replace H : ((cursor_Cursor_Num.f k t175 t176 t177 t178 t179 8).bind fun bt208 => (if t181 = 5 then (if t187 = 300 then (if t193 = 0 then (if (t199 == 2 && (t200 == 0 && (t201 == 13))) = true then ((cursor_place_At.f t202 t203 t204 t205 t206).bind fun bt214 => (if bt214.1 = 13 then ((cursor_Cursor_Left.f bt214.2.1 bt214.2.2.1 bt214.2.2.2.1 bt214.2.2.2.2.1 bt214.2.2.2.2.2).bind fun bt220 => (if bt220.1 = 0 then ((cursor_Cursor_End.f bt220.2.1 bt220.2.2.1 bt220.2.2.2.1 bt220.2.2.2.2.1 bt220.2.2.2.2.2).bind fun bt226 => (if (bt226.1 == t199 && (bt226.2.1 == t200 && (bt226.2.2.1 == t201))) = true then (if bt208.1 = 0 then ((cursor_place_Fault.f bt208.2.1 bt208.2.2.1 bt208.2.2.2.1 bt208.2.2.2.2.1 bt208.2.2.2.2.2).bind fun bt234 => (some (bt234.1 == 3 && (bt234.2.1 == 0 && (bt234.2.2.1 == 0))))) else (none)) else (none))) else (none))) else (none))) else (none)) else (none)) else (none)) else (none))) = some r := H
  have A6 := Aside0.mk A60
  clear A60
  replace H := Option.bind_eq_some_iff.mp H
  obtain ⟨⟨t208, t209, t210, t211, t212, t213⟩, A70, H⟩ := H
  replace H : (if t181 = 5 then (if t187 = 300 then (if t193 = 0 then (if (t199 == 2 && (t200 == 0 && (t201 == 13))) = true then ((cursor_place_At.f t202 t203 t204 t205 t206).bind fun bt214 => (if bt214.1 = 13 then ((cursor_Cursor_Left.f bt214.2.1 bt214.2.2.1 bt214.2.2.2.1 bt214.2.2.2.2.1 bt214.2.2.2.2.2).bind fun bt220 => (if bt220.1 = 0 then ((cursor_Cursor_End.f bt220.2.1 bt220.2.2.1 bt220.2.2.2.1 bt220.2.2.2.2.1 bt220.2.2.2.2.2).bind fun bt226 => (if (bt226.1 == t199 && (bt226.2.1 == t200 && (bt226.2.2.1 == t201))) = true then (if t208 = 0 then ((cursor_place_Fault.f t209 t210 t211 t212 t213).bind fun bt234 => (some (bt234.1 == 3 && (bt234.2.1 == 0 && (bt234.2.2.1 == 0))))) else (none)) else (none))) else (none))) else (none))) else (none)) else (none)) else (none)) else (none)) = some r := H
  have A7 := Aside0.mk A70
  clear A70
  by_cases c8 : t181 = 5
  · rw [if_pos c8] at H
    have c8b0 : (t181 == 5) = true := beq_iff_eq.mpr c8
    have c8b1 : (t181 != 5) = false := bne_eq_false_iff_eq.mpr c8
    clear c8
    by_cases c9 : t187 = 300
    · rw [if_pos c9] at H
      have c9b0 : (t187 == 300) = true := beq_iff_eq.mpr c9
      have c9b1 : (t187 != 300) = false := bne_eq_false_iff_eq.mpr c9
      clear c9
      by_cases c10 : t193 = 0
      · rw [if_pos c10] at H
        have c10b0 : (t193 == 0) = true := beq_iff_eq.mpr c10
        have c10b1 : (t193 != 0) = false := bne_eq_false_iff_eq.mpr c10
        clear c10
        by_cases c11 : (t199 == 2 && (t200 == 0 && (t201 == 13))) = true
        · rw [if_pos c11] at H
          have c11b0 : (t199 == 2 && (t200 == 0 && (t201 == 13))) = true := c11
          (try (have c11b1 : decide (t199 = 2 && (t200 == 0 && (t201 == 13))) = true := by simpa using c11))
          (try (have c11b2 : (t199 == 2 && (t200 == 0 && (t201 == 13))) = true := by simpa using c11))
          clear c11
          replace H := Option.bind_eq_some_iff.mp H
          obtain ⟨⟨t214, t215, t216, t217, t218, t219⟩, A120, H⟩ := H
          replace H : (if t214 = 13 then ((cursor_Cursor_Left.f t215 t216 t217 t218 t219).bind fun bt220 => (if bt220.1 = 0 then ((cursor_Cursor_End.f bt220.2.1 bt220.2.2.1 bt220.2.2.2.1 bt220.2.2.2.2.1 bt220.2.2.2.2.2).bind fun bt226 => (if (bt226.1 == t199 && (bt226.2.1 == t200 && (bt226.2.2.1 == t201))) = true then (if t208 = 0 then ((cursor_place_Fault.f t209 t210 t211 t212 t213).bind fun bt234 => (some (bt234.1 == 3 && (bt234.2.1 == 0 && (bt234.2.2.1 == 0))))) else (none)) else (none))) else (none))) else (none)) = some r := H
          have A12 := Aside0.mk A120
          clear A120
          by_cases c13 : t214 = 13
          · rw [if_pos c13] at H
            have c13b0 : (t214 == 13) = true := beq_iff_eq.mpr c13
            have c13b1 : (t214 != 13) = false := bne_eq_false_iff_eq.mpr c13
            clear c13
            replace H := Option.bind_eq_some_iff.mp H
            obtain ⟨⟨t220, t221, t222, t223, t224, t225⟩, A140, H⟩ := H
            replace H : (if t220 = 0 then ((cursor_Cursor_End.f t221 t222 t223 t224 t225).bind fun bt226 => (if (bt226.1 == t199 && (bt226.2.1 == t200 && (bt226.2.2.1 == t201))) = true then (if t208 = 0 then ((cursor_place_Fault.f t209 t210 t211 t212 t213).bind fun bt234 => (some (bt234.1 == 3 && (bt234.2.1 == 0 && (bt234.2.2.1 == 0))))) else (none)) else (none))) else (none)) = some r := H
            have A14 := Aside0.mk A140
            clear A140
            by_cases c15 : t220 = 0
            · rw [if_pos c15] at H
              have c15b0 : (t220 == 0) = true := beq_iff_eq.mpr c15
              have c15b1 : (t220 != 0) = false := bne_eq_false_iff_eq.mpr c15
              clear c15
              replace H := Option.bind_eq_some_iff.mp H
              obtain ⟨⟨t226, t227, t228, t229, t230, t231, t232, t233⟩, A160, H⟩ := H
              replace H : (if (t226 == t199 && (t227 == t200 && (t228 == t201))) = true then (if t208 = 0 then ((cursor_place_Fault.f t209 t210 t211 t212 t213).bind fun bt234 => (some (bt234.1 == 3 && (bt234.2.1 == 0 && (bt234.2.2.1 == 0))))) else (none)) else (none)) = some r := H
              have A16 := Aside0.mk A160
              clear A160
              by_cases c17 : (t226 == t199 && (t227 == t200 && (t228 == t201))) = true
              · rw [if_pos c17] at H
                have c17b0 : (t226 == t199 && (t227 == t200 && (t228 == t201))) = true := c17
                (try (have c17b1 : decide (t226 = t199 && (t227 == t200 && (t228 == t201))) = true := by simpa using c17))
                (try (have c17b2 : (t226 == t199 && (t227 == t200 && (t228 == t201))) = true := by simpa using c17))
                clear c17
                by_cases c18 : t208 = 0
                · rw [if_pos c18] at H
                  have c18b0 : (t208 == 0) = true := beq_iff_eq.mpr c18
                  have c18b1 : (t208 != 0) = false := bne_eq_false_iff_eq.mpr c18
                  clear c18
                  replace H := Option.bind_eq_some_iff.mp H
                  obtain ⟨⟨t234, t235, t236, t237, t238, t239, t240, t241⟩, A190, H⟩ := H
                  replace H : (some (t234 == 3 && (t235 == 0 && (t236 == 0)))) = some r := H
                  have A19 := Aside0.mk A190
                  clear A190
                  obtain rfl := Option.some.inj H
                  go_enter Try.func8, Try.ntmps8
                  try go_wp2_with (first | ((with_reducible refine gate_dst (N := 8) rfl ?_); refine Kd.R_lit (Kd.int .u8) _ 5 ?hg (N := 8) ?hd (xs := ([5, 172, 2, 128] : List Int)) (inner := [.int .u8 5, .int .u8 172, .int .u8 2, .int .u8 128]) (ok := fun _ => True) (okp := fun _ => True) ?hr ?hp (fun _ hk => hk) trivial (Below.refl _ _) (Nat.le_refl _) (by simp) ?_; (case hd => rfl); (case hg => rfl); (case hr => first | (go_simp; done) | (go_simp; rfl)); (case hp => exact (Reps.one (show Kd.M (Kd.int .u8) _ _ _ 5 [.int .u8 5] from rfl) (Reps.one (show Kd.M (Kd.int .u8) _ _ _ 172 [.int .u8 172] from rfl) (Reps.one (show Kd.M (Kd.int .u8) _ _ _ 2 [.int .u8 2] from rfl) (Reps.one (show Kd.M (Kd.int .u8) _ _ _ 128 [.int .u8 128] from rfl) (Reps.none _ _)))))); intro v164 w20 ho21 hb hg_ hnew_; clear hg_ hnew_; (first | rw [← Ny163.out] at ho21 | (simp only [Int.reduceToNat] at ho21; rw [← Ny163.out] at ho21)); have n0_ := Aside0.mk (Kd.R_lower ho21 (below_size (by repeat (first | (with_reducible first | exact HB.out | apply below_alloc | apply pw_below_drewN | apply below_drew1) | exact HB.out)))); have n1_ := Aside0.mk (below_step (by repeat (first | (with_reducible first | exact HB.out | apply below_alloc | apply pw_below_drewN | apply below_drew1) | exact HB.out)) hb); clear HB; have HO165 := n0_; have HB := n1_; clear n0_ n1_; clear hb ho21; obtain ⟨Ao22, co22, eo22⟩ := Kd.R_slice HO165.out; subst eo22) | ((with_reducible refine gate_callee (f := 9) rfl ?_); refine goesL_ (some 9) rfl rfl Try.func9 (by kernel_rfl) rfl #[.slice Ao22 y163.length co22, .int .i64 10] rfl (by (try simp only [List.map_toArray, List.map_cons, List.map_nil]); first | done | rfl | (simp only [List.length_drop, List.length_take]; rfl)) ?_; (with_reducible refine (cursor_Open.calls _ _ y163 10 t166 t167 t168 t169 t170 w _ ?side1 ?side2 ?side3 A1.out).mono ?_); (case side1 => repeat (first | (with_reducible first | exact HB.out | apply below_alloc | apply pw_below_drewN | apply below_drew1) | exact HB.out)); (case side2 => repeat (first | exact (Kd.R_reads' HO165.out).2.2 | (with_reducible refine Kd.C_alloc ?_ _) | (with_reducible refine Kd.C_drewN ?_ _) | (with_reducible refine Kd.C_drew ?_))); (case side3 => exact (Kd.R_reads' HO165.out).2.1); rintro e w23 ⟨g171, rfl, hi, hb, hb2⟩; refine ⟨_, rfl, ?_⟩; have n0_ := Aside0.mk (Kd.R_below (by (with_reducible repeat (first | apply Kd.R_alloc | apply Kd.R_drewN | apply Kd.R_drew)); exact HO165.out) hb2); have n1_ := Aside0.mk (hb); have n2_ := Aside0.mk (hi); clear HO165; clear HB; have HO165 := n0_; have HB := n1_; have HI171 := n2_; clear n0_ n1_ n2_; (try clear hb); (try clear hb2); (try clear hk); (try clear hi)) | ((with_reducible refine gate_dst (N := 10) rfl ?_); refine Kd.R_lit (Kd.int .u8) _ 5 ?hg (N := 10) ?hd (xs := ([9, 9] : List Int)) (inner := [.int .u8 9, .int .u8 9]) (ok := fun _ => True) (okp := fun _ => True) ?hr ?hp (fun _ hk => hk) trivial (Below.refl _ _) (Nat.le_refl _) (by simp) ?_; (case hd => rfl); (case hg => rfl); (case hr => first | (go_simp; done) | (go_simp; rfl)); (case hp => exact (Reps.one (show Kd.M (Kd.int .u8) _ _ _ 9 [.int .u8 9] from rfl) (Reps.one (show Kd.M (Kd.int .u8) _ _ _ 9 [.int .u8 9] from rfl) (Reps.none _ _)))); intro v173 w24 ho25 hb hg_ hnew_; clear hg_ hnew_; (first | rw [← Ny172.out] at ho25 | (simp only [Int.reduceToNat] at ho25; rw [← Ny172.out] at ho25)); have n0_ := Aside0.mk (Kd.R_elder' (by (with_reducible repeat (first | apply Kd.R_alloc | apply Kd.R_drewN | apply Kd.R_drew)); exact HO165.out) (Kd.R_base ho25) hb); have n1_ := Aside0.mk (Kd.R_lower (Kd.R_new' ho25 (Kd.R_lt (by (with_reducible repeat (first | apply Kd.R_alloc | apply Kd.R_drewN | apply Kd.R_drew)); exact HO165.out))) (below_size (by repeat (first | (with_reducible first | exact HB.out | apply below_alloc | apply pw_below_drewN | apply below_drew1 | refine below_set ?_ (IsS35.ge HI171.out)) | exact HB.out)))); have n2_ := Aside0.mk (IsS35.below (by repeat (first | (with_reducible first | exact HI171.out | apply IsS35.alloc | apply IsS35.drewN | apply IsS35.drew | apply IsS35.set_0 | apply IsS35.set_1 | apply IsS35.set_2 | apply IsS35.set_3 | apply IsS35.set_4) | exact HI171.out)) hb); have n3_ := Aside0.mk (below_step (by repeat (first | (with_reducible first | exact HB.out | apply below_alloc | apply pw_below_drewN | apply below_drew1 | refine below_set ?_ (IsS35.ge HI171.out)) | exact HB.out)) hb); clear HO165; clear HI171; clear HB; have HO165 := n0_; have HO174 := n1_; have HI171 := n2_; have HB := n3_; clear n0_ n1_ n2_ n3_; clear hb ho25; obtain ⟨Ao26, co26, eo26⟩ := Kd.R_slice HO174.out; subst eo26) | ((with_reducible refine gate_callee (f := 9) rfl ?_); refine goesL_ (some 11) rfl rfl Try.func9 (by kernel_rfl) rfl #[.slice Ao26 y172.length co26, .int .i64 (-3)] rfl (by (try simp only [List.map_toArray, List.map_cons, List.map_nil]); first | done | rfl | (simp only [List.length_drop, List.length_take]; rfl)) ?_; (with_reducible refine (cursor_Open.calls _ _ y172 (-3) t175 t176 t177 t178 t179 _ _ (Below.refl _ _) ?side1 ?side2 A2.out).mono ?_); (case side1 => repeat (first | exact (Kd.R_reads' HO174.out).2.2 | (with_reducible refine Kd.C_alloc ?_ _) | (with_reducible refine Kd.C_drewN ?_ _) | (with_reducible refine Kd.C_drew ?_))); (case side2 => exact (Kd.R_reads' HO174.out).2.1); rintro e w27 ⟨g180, rfl, hi, hb, hb2⟩; refine ⟨_, rfl, ?_⟩; have n0_ := Aside0.mk (Kd.R_below (by (with_reducible repeat (first | apply Kd.R_alloc | apply Kd.R_drewN | apply Kd.R_drew)); exact HO165.out) hb2); have n1_ := Aside0.mk (Kd.R_below (by (with_reducible repeat (first | apply Kd.R_alloc | apply Kd.R_drewN | apply Kd.R_drew)); exact HO174.out) hb2); have n2_ := Aside0.mk (IsS35.below (by repeat (first | (with_reducible first | exact HI171.out | apply IsS35.alloc | apply IsS35.drewN | apply IsS35.drew | apply IsS35.set_0 | apply IsS35.set_1 | apply IsS35.set_2 | apply IsS35.set_3 | apply IsS35.set_4) | exact HI171.out)) hb2); have n3_ := Aside0.mk (below_step (by repeat (first | (with_reducible first | exact HB.out | apply below_alloc | apply pw_below_drewN | apply below_drew1 | refine below_set ?_ (IsS35.ge HI171.out)) | exact HB.out)) hb2); have n4_ := Aside0.mk ((show IsS35 w w27 g180 t175 t176 t177 t178 t179 from IsS35.lower hi (below_size (by repeat (first | (with_reducible first | exact HB.out | apply below_alloc | apply pw_below_drewN | apply below_drew1 | refine below_set ?_ (IsS35.ge HI171.out)) | exact HB.out))))); have n5_ := Aside0.mk (((Nat.ne_of_lt (Nat.lt_of_lt_of_le (IsS35.lt (show IsS35 w _ g171 t166 t167 t168 t169 t170 from by repeat (first | (with_reducible first | exact HI171.out | apply IsS35.alloc | apply IsS35.drewN | apply IsS35.drew | apply IsS35.set_0 | apply IsS35.set_1 | apply IsS35.set_2 | apply IsS35.set_3 | apply IsS35.set_4) | exact HI171.out))) hi.2)).symm : g180 ≠ g171)); have n6_ := Aside0.mk ((Nat.ne_of_lt (Nat.lt_of_lt_of_le (IsS35.lt (show IsS35 w _ g171 t166 t167 t168 t169 t170 from by repeat (first | (with_reducible first | exact HI171.out | apply IsS35.alloc | apply IsS35.drewN | apply IsS35.drew | apply IsS35.set_0 | apply IsS35.set_1 | apply IsS35.set_2 | apply IsS35.set_3 | apply IsS35.set_4) | exact HI171.out))) hi.2) : g171 ≠ g180)); clear HO165; clear HO174; clear HI171; clear HB; have HO165 := n0_; have HO174 := n1_; have HI171 := n2_; have HB := n3_; have HI180 := n4_; have NB180_171 := n5_; have NB171_180 := n6_; clear n0_ n1_ n2_ n3_ n4_ n5_ n6_; (try clear hb); (try clear hb2); (try clear hk); (try clear hi)) | ((with_reducible refine gate_callee (f := 15) rfl ?_); refine goesL_ (some 19) rfl rfl Try.func15 (by kernel_rfl) rfl #[.pointer (some ⟨g171, 0, none⟩)] rfl (by (try simp only [List.map_toArray, List.map_cons, List.map_nil]); first | done | rfl | (simp only [List.length_drop, List.length_take]; rfl)) ?_; (with_reducible refine (cursor_Cursor_Byte.calls g171 t166 t167 t168 t169 t170 t181 t182 t183 t184 t185 t186 w _ ?side1 ?side2 A3.out).mono ?_); (case side1 => repeat (first | (with_reducible first | exact HI171.out | apply IsS35.alloc | apply IsS35.drewN | apply IsS35.drew | apply IsS35.set_0 | apply IsS35.set_1 | apply IsS35.set_2 | apply IsS35.set_3 | apply IsS35.set_4) | exact HI171.out)); (case side2 => repeat (first | (with_reducible first | exact HB.out | apply below_alloc | apply pw_below_drewN | apply below_drew1 | refine below_set ?_ (IsS35.ge HI171.out) | refine below_set ?_ (IsS35.ge HI180.out)) | exact HB.out)); rintro e w28 ⟨rfl, hi, hb, hk⟩; refine ⟨_, rfl, ?_⟩; have n0_ := Aside0.mk (Kd.R_mono (Kd.R_keep (IsS35.apart (show IsS35 w _ g171 t166 t167 t168 t169 t170 from by repeat (first | (with_reducible first | exact HI171.out | apply IsS35.alloc | apply IsS35.drewN | apply IsS35.drew | apply IsS35.set_0 | apply IsS35.set_1 | apply IsS35.set_2 | apply IsS35.set_3 | apply IsS35.set_4) | exact HI171.out)) (by (with_reducible repeat (first | apply Kd.R_alloc | apply Kd.R_drewN | apply Kd.R_drew)); exact HO165.out) (by decide)) hk (fun _ h => h.2)) (fun _ h => h.1)); have n1_ := Aside0.mk (Kd.R_mono (Kd.R_keep (IsS35.apart (show IsS35 w _ g171 t166 t167 t168 t169 t170 from by repeat (first | (with_reducible first | exact HI171.out | apply IsS35.alloc | apply IsS35.drewN | apply IsS35.drew | apply IsS35.set_0 | apply IsS35.set_1 | apply IsS35.set_2 | apply IsS35.set_3 | apply IsS35.set_4) | exact HI171.out)) (by (with_reducible repeat (first | apply Kd.R_alloc | apply Kd.R_drewN | apply Kd.R_drew)); exact HO174.out) (by decide)) hk (fun _ h => h.2)) (fun _ h => h.1)); have n2_ := Aside0.mk ((IsS35.keepS (show IsS35 w _ g180 t175 t176 t177 t178 t179 from by repeat (first | (with_reducible first | exact HI180.out | apply IsS35.alloc | apply IsS35.drewN | apply IsS35.drew | apply IsS35.set_0 | apply IsS35.set_1 | apply IsS35.set_2 | apply IsS35.set_3 | apply IsS35.set_4) | exact HI180.out)) hk NB180_171.out (IsS35.cells (show IsS35 w _ g171 t166 t167 t168 t169 t170 from by repeat (first | (with_reducible first | exact HI171.out | apply IsS35.alloc | apply IsS35.drewN | apply IsS35.drew | apply IsS35.set_0 | apply IsS35.set_1 | apply IsS35.set_2 | apply IsS35.set_3 | apply IsS35.set_4) | exact HI171.out))))); have n3_ := Aside0.mk (hb); have n4_ := Aside0.mk (hi); clear HO165; clear HO174; clear HI180; clear HB; clear HI171; have HO165 := n0_; have HO174 := n1_; have HI180 := n2_; have HB := n3_; have HI171 := n4_; clear n0_ n1_ n2_ n3_ n4_; (try clear hb); (try clear hb2); (try clear hk); (try clear hi)) | ((with_reducible refine gate_callee (f := 17) rfl ?_); refine goesL_ (some 21) rfl rfl Try.func17 (by kernel_rfl) rfl #[.pointer (some ⟨g171, 0, none⟩), .int .i64 300] rfl (by (try simp only [List.map_toArray, List.map_cons, List.map_nil]); first | done | rfl | (simp only [List.length_drop, List.length_take]; rfl)) ?_; (with_reducible refine (cursor_Cursor_Num.calls k g171 t182 t183 t184 t185 t186 300 t187 t188 t189 t190 t191 t192 w _ ?side1 ?side2 A4.out).mono ?_); (case side1 => repeat (first | (with_reducible first | exact HI171.out | apply IsS35.alloc | apply IsS35.drewN | apply IsS35.drew | apply IsS35.set_0 | apply IsS35.set_1 | apply IsS35.set_2 | apply IsS35.set_3 | apply IsS35.set_4) | exact HI171.out)); (case side2 => repeat (first | (with_reducible first | exact HB.out | apply below_alloc | apply pw_below_drewN | apply below_drew1 | refine below_set ?_ (IsS35.ge HI171.out) | refine below_set ?_ (IsS35.ge HI180.out)) | exact HB.out)); rintro e w29 ⟨rfl, hi, hb, hk⟩; refine ⟨_, rfl, ?_⟩; have n0_ := Aside0.mk (Kd.R_mono (Kd.R_keep (IsS35.apart (show IsS35 w _ g171 t182 t183 t184 t185 t186 from by repeat (first | (with_reducible first | exact HI171.out | apply IsS35.alloc | apply IsS35.drewN | apply IsS35.drew | apply IsS35.set_0 | apply IsS35.set_1 | apply IsS35.set_2 | apply IsS35.set_3 | apply IsS35.set_4) | exact HI171.out)) (by (with_reducible repeat (first | apply Kd.R_alloc | apply Kd.R_drewN | apply Kd.R_drew)); exact HO165.out) (by decide)) hk (fun _ h => h.2)) (fun _ h => h.1)); have n1_ := Aside0.mk (Kd.R_mono (Kd.R_keep (IsS35.apart (show IsS35 w _ g171 t182 t183 t184 t185 t186 from by repeat (first | (with_reducible first | exact HI171.out | apply IsS35.alloc | apply IsS35.drewN | apply IsS35.drew | apply IsS35.set_0 | apply IsS35.set_1 | apply IsS35.set_2 | apply IsS35.set_3 | apply IsS35.set_4) | exact HI171.out)) (by (with_reducible repeat (first | apply Kd.R_alloc | apply Kd.R_drewN | apply Kd.R_drew)); exact HO174.out) (by decide)) hk (fun _ h => h.2)) (fun _ h => h.1)); have n2_ := Aside0.mk ((IsS35.keepS (show IsS35 w _ g180 t175 t176 t177 t178 t179 from by repeat (first | (with_reducible first | exact HI180.out | apply IsS35.alloc | apply IsS35.drewN | apply IsS35.drew | apply IsS35.set_0 | apply IsS35.set_1 | apply IsS35.set_2 | apply IsS35.set_3 | apply IsS35.set_4) | exact HI180.out)) hk NB180_171.out (IsS35.cells (show IsS35 w _ g171 t182 t183 t184 t185 t186 from by repeat (first | (with_reducible first | exact HI171.out | apply IsS35.alloc | apply IsS35.drewN | apply IsS35.drew | apply IsS35.set_0 | apply IsS35.set_1 | apply IsS35.set_2 | apply IsS35.set_3 | apply IsS35.set_4) | exact HI171.out))))); have n3_ := Aside0.mk (hb); have n4_ := Aside0.mk (hi); clear HO165; clear HO174; clear HI180; clear HB; clear HI171; have HO165 := n0_; have HO174 := n1_; have HI180 := n2_; have HB := n3_; have HI171 := n4_; clear n0_ n1_ n2_ n3_ n4_; (try clear hb); (try clear hb2); (try clear hk); (try clear hi)) | ((with_reducible refine gate_callee (f := 17) rfl ?_); refine goesL_ (some 23) rfl rfl Try.func17 (by kernel_rfl) rfl #[.pointer (some ⟨g171, 0, none⟩), .int .i64 9] rfl (by (try simp only [List.map_toArray, List.map_cons, List.map_nil]); first | done | rfl | (simp only [List.length_drop, List.length_take]; rfl)) ?_; (with_reducible refine (cursor_Cursor_Num.calls k g171 t188 t189 t190 t191 t192 9 t193 t194 t195 t196 t197 t198 w _ ?side1 ?side2 A5.out).mono ?_); (case side1 => repeat (first | (with_reducible first | exact HI171.out | apply IsS35.alloc | apply IsS35.drewN | apply IsS35.drew | apply IsS35.set_0 | apply IsS35.set_1 | apply IsS35.set_2 | apply IsS35.set_3 | apply IsS35.set_4) | exact HI171.out)); (case side2 => repeat (first | (with_reducible first | exact HB.out | apply below_alloc | apply pw_below_drewN | apply below_drew1 | refine below_set ?_ (IsS35.ge HI171.out) | refine below_set ?_ (IsS35.ge HI180.out)) | exact HB.out)); rintro e w30 ⟨rfl, hi, hb, hk⟩; refine ⟨_, rfl, ?_⟩; have n0_ := Aside0.mk (Kd.R_mono (Kd.R_keep (IsS35.apart (show IsS35 w _ g171 t188 t189 t190 t191 t192 from by repeat (first | (with_reducible first | exact HI171.out | apply IsS35.alloc | apply IsS35.drewN | apply IsS35.drew | apply IsS35.set_0 | apply IsS35.set_1 | apply IsS35.set_2 | apply IsS35.set_3 | apply IsS35.set_4) | exact HI171.out)) (by (with_reducible repeat (first | apply Kd.R_alloc | apply Kd.R_drewN | apply Kd.R_drew)); exact HO165.out) (by decide)) hk (fun _ h => h.2)) (fun _ h => h.1)); have n1_ := Aside0.mk (Kd.R_mono (Kd.R_keep (IsS35.apart (show IsS35 w _ g171 t188 t189 t190 t191 t192 from by repeat (first | (with_reducible first | exact HI171.out | apply IsS35.alloc | apply IsS35.drewN | apply IsS35.drew | apply IsS35.set_0 | apply IsS35.set_1 | apply IsS35.set_2 | apply IsS35.set_3 | apply IsS35.set_4) | exact HI171.out)) (by (with_reducible repeat (first | apply Kd.R_alloc | apply Kd.R_drewN | apply Kd.R_drew)); exact HO174.out) (by decide)) hk (fun _ h => h.2)) (fun _ h => h.1)); have n2_ := Aside0.mk ((IsS35.keepS (show IsS35 w _ g180 t175 t176 t177 t178 t179 from by repeat (first | (with_reducible first | exact HI180.out | apply IsS35.alloc | apply IsS35.drewN | apply IsS35.drew | apply IsS35.set_0 | apply IsS35.set_1 | apply IsS35.set_2 | apply IsS35.set_3 | apply IsS35.set_4) | exact HI180.out)) hk NB180_171.out (IsS35.cells (show IsS35 w _ g171 t188 t189 t190 t191 t192 from by repeat (first | (with_reducible first | exact HI171.out | apply IsS35.alloc | apply IsS35.drewN | apply IsS35.drew | apply IsS35.set_0 | apply IsS35.set_1 | apply IsS35.set_2 | apply IsS35.set_3 | apply IsS35.set_4) | exact HI171.out))))); have n3_ := Aside0.mk (hb); have n4_ := Aside0.mk (hi); clear HO165; clear HO174; clear HI180; clear HB; clear HI171; have HO165 := n0_; have HO174 := n1_; have HI180 := n2_; have HB := n3_; have HI171 := n4_; clear n0_ n1_ n2_ n3_ n4_; (try clear hb); (try clear hb2); (try clear hk); (try clear hi)) | ((with_reducible refine gate_callee (f := 13) rfl ?_); refine goesL_ (some 27) rfl rfl Try.func13 (by kernel_rfl) rfl #[.pointer (some ⟨g171, 0, none⟩)] rfl (by (try simp only [List.map_toArray, List.map_cons, List.map_nil]); first | done | rfl | (simp only [List.length_drop, List.length_take]; rfl)) ?_; (with_reducible refine (cursor_place_Fault.calls g171 t194 t195 t196 t197 t198 t199 t200 t201 t202 t203 t204 t205 t206 w _ ?side1 ?side2 A6.out).mono ?_); (case side1 => repeat (first | (with_reducible first | exact HI171.out | apply IsS35.alloc | apply IsS35.drewN | apply IsS35.drew | apply IsS35.set_0 | apply IsS35.set_1 | apply IsS35.set_2 | apply IsS35.set_3 | apply IsS35.set_4) | exact HI171.out)); (case side2 => repeat (first | (with_reducible first | exact HB.out | apply below_alloc | apply pw_below_drewN | apply below_drew1 | refine below_set ?_ (IsS35.ge HI171.out) | refine below_set ?_ (IsS35.ge HI180.out)) | exact HB.out)); rintro e w31 ⟨rfl, hi, hb, hk⟩; refine ⟨_, rfl, ?_⟩; have n0_ := Aside0.mk (Kd.R_mono (Kd.R_keep (IsS35.apart (show IsS35 w _ g171 t194 t195 t196 t197 t198 from by repeat (first | (with_reducible first | exact HI171.out | apply IsS35.alloc | apply IsS35.drewN | apply IsS35.drew | apply IsS35.set_0 | apply IsS35.set_1 | apply IsS35.set_2 | apply IsS35.set_3 | apply IsS35.set_4) | exact HI171.out)) (by (with_reducible repeat (first | apply Kd.R_alloc | apply Kd.R_drewN | apply Kd.R_drew)); exact HO165.out) (by decide)) hk (fun _ h => h.2)) (fun _ h => h.1)); have n1_ := Aside0.mk (Kd.R_mono (Kd.R_keep (IsS35.apart (show IsS35 w _ g171 t194 t195 t196 t197 t198 from by repeat (first | (with_reducible first | exact HI171.out | apply IsS35.alloc | apply IsS35.drewN | apply IsS35.drew | apply IsS35.set_0 | apply IsS35.set_1 | apply IsS35.set_2 | apply IsS35.set_3 | apply IsS35.set_4) | exact HI171.out)) (by (with_reducible repeat (first | apply Kd.R_alloc | apply Kd.R_drewN | apply Kd.R_drew)); exact HO174.out) (by decide)) hk (fun _ h => h.2)) (fun _ h => h.1)); have n2_ := Aside0.mk ((IsS35.keepS (show IsS35 w _ g180 t175 t176 t177 t178 t179 from by repeat (first | (with_reducible first | exact HI180.out | apply IsS35.alloc | apply IsS35.drewN | apply IsS35.drew | apply IsS35.set_0 | apply IsS35.set_1 | apply IsS35.set_2 | apply IsS35.set_3 | apply IsS35.set_4) | exact HI180.out)) hk NB180_171.out (IsS35.cells (show IsS35 w _ g171 t194 t195 t196 t197 t198 from by repeat (first | (with_reducible first | exact HI171.out | apply IsS35.alloc | apply IsS35.drewN | apply IsS35.drew | apply IsS35.set_0 | apply IsS35.set_1 | apply IsS35.set_2 | apply IsS35.set_3 | apply IsS35.set_4) | exact HI171.out))))); have n3_ := Aside0.mk (hb); have n4_ := Aside0.mk (hi); clear HO165; clear HO174; clear HI180; clear HB; clear HI171; have HO165 := n0_; have HO174 := n1_; have HI180 := n2_; have HB := n3_; have HI171 := n4_; clear n0_ n1_ n2_ n3_ n4_; (try clear hb); (try clear hb2); (try clear hk); (try clear hi)) | ((with_reducible refine gate_dst (N := 6) rfl ?_); refine box_event ?hg (N := 6) ?hd (cs := #[.int .i64 0, .int .i64 0, .int .i64 0]) (t := 31) ?hr ?_; (case hd => rfl); (case hg => rfl); (case hr => first | (go_simp; done) | (go_simp; rfl)); intro gb207 hg w32 hbox hb; have n0_ := Aside0.mk (Kd.R_below (by (with_reducible repeat (first | apply Kd.R_alloc | apply Kd.R_drewN | apply Kd.R_drew)); exact HO165.out) hb); have n1_ := Aside0.mk (Kd.R_below (by (with_reducible repeat (first | apply Kd.R_alloc | apply Kd.R_drewN | apply Kd.R_drew)); exact HO174.out) hb); have n2_ := Aside0.mk (IsS35.below (by repeat (first | (with_reducible first | exact HI171.out | apply IsS35.alloc | apply IsS35.drewN | apply IsS35.drew | apply IsS35.set_0 | apply IsS35.set_1 | apply IsS35.set_2 | apply IsS35.set_3 | apply IsS35.set_4) | exact HI171.out)) hb); have n3_ := Aside0.mk (IsS35.below (by repeat (first | (with_reducible first | exact HI180.out | apply IsS35.alloc | apply IsS35.drewN | apply IsS35.drew | apply IsS35.set_0 | apply IsS35.set_1 | apply IsS35.set_2 | apply IsS35.set_3 | apply IsS35.set_4) | exact HI180.out)) hb); have n4_ := Aside0.mk (below_step (by repeat (first | (with_reducible first | exact HB.out | apply below_alloc | apply pw_below_drewN | apply below_drew1 | refine below_set ?_ (IsS35.ge HI171.out) | refine below_set ?_ (IsS35.ge HI180.out)) | exact HB.out)) hb); have n5_ := Aside0.mk (hbox); have n6_ := Aside0.mk ((by rw [hg]; exact (below_size (by repeat (first | (with_reducible first | exact HB.out | apply below_alloc | apply pw_below_drewN | apply below_drew1 | refine below_set ?_ (IsS35.ge HI171.out) | refine below_set ?_ (IsS35.ge HI180.out)) | exact HB.out))) : w.heap.size ≤ gb207)); have n7_ := Aside0.mk ((by rw [hg]; exact (below_size (by repeat (first | (with_reducible first | exact HB.out | apply below_alloc | apply pw_below_drewN | apply below_drew1 | refine below_set ?_ (IsS35.ge HI171.out) | refine below_set ?_ (IsS35.ge HI180.out)) | exact HB.out))) : w.heap.size ≤ gb207)); have n8_ := Aside0.mk ((by rw [hg]; exact Nat.ne_of_lt (IsS35.lt (show IsS35 w _ g171 t202 t203 t204 t205 t206 from by repeat (first | (with_reducible first | exact HI171.out | apply IsS35.alloc | apply IsS35.drewN | apply IsS35.drew | apply IsS35.set_0 | apply IsS35.set_1 | apply IsS35.set_2 | apply IsS35.set_3 | apply IsS35.set_4) | exact HI171.out))) : g171 ≠ gb207)); have n9_ := Aside0.mk ((by rw [hg]; exact Nat.ne_of_gt (IsS35.lt (show IsS35 w _ g171 t202 t203 t204 t205 t206 from by repeat (first | (with_reducible first | exact HI171.out | apply IsS35.alloc | apply IsS35.drewN | apply IsS35.drew | apply IsS35.set_0 | apply IsS35.set_1 | apply IsS35.set_2 | apply IsS35.set_3 | apply IsS35.set_4) | exact HI171.out))) : gb207 ≠ g171)); have n10_ := Aside0.mk ((by rw [hg]; exact Nat.ne_of_lt (IsS35.lt (show IsS35 w _ g180 t175 t176 t177 t178 t179 from by repeat (first | (with_reducible first | exact HI180.out | apply IsS35.alloc | apply IsS35.drewN | apply IsS35.drew | apply IsS35.set_0 | apply IsS35.set_1 | apply IsS35.set_2 | apply IsS35.set_3 | apply IsS35.set_4) | exact HI180.out))) : g180 ≠ gb207)); have n11_ := Aside0.mk ((by rw [hg]; exact Nat.ne_of_gt (IsS35.lt (show IsS35 w _ g180 t175 t176 t177 t178 t179 from by repeat (first | (with_reducible first | exact HI180.out | apply IsS35.alloc | apply IsS35.drewN | apply IsS35.drew | apply IsS35.set_0 | apply IsS35.set_1 | apply IsS35.set_2 | apply IsS35.set_3 | apply IsS35.set_4) | exact HI180.out))) : gb207 ≠ g180)); clear HO165; clear HO174; clear HI171; clear HI180; clear HB; have HO165 := n0_; have HO174 := n1_; have HI171 := n2_; have HI180 := n3_; have HB := n4_; have BK207 := n5_; have GW207 := n6_; have GE207 := n7_; have NB171_207 := n8_; have NB207_171 := n9_; have NB180_207 := n10_; have NB207_180 := n11_; clear n0_ n1_ n2_ n3_ n4_ n5_ n6_ n7_ n8_ n9_ n10_ n11_; clear hb hbox hg; have hnb33 := NB207_171.out; have hnc33 := NB171_207.out; have hnb34 := NB207_180.out; have hnc34 := NB180_207.out; have hcz35_0 : w32.cell? ⟨gb207, 0, none⟩ = some (.int .i64 0) := (blk_cell BK207.out 0).trans rfl; have hcz35_1 : w32.cell? ⟨gb207, 1, none⟩ = some (.int .i64 0) := (blk_cell BK207.out 1).trans rfl; have hcz35_2 : w32.cell? ⟨gb207, 2, none⟩ = some (.int .i64 0) := (blk_cell BK207.out 2).trans rfl; have hfz35_0 := blk_frozen BK207.out 0; have hfz35_1 := blk_frozen BK207.out 1; have hfz35_2 := blk_frozen BK207.out 2) | ((with_reducible refine gate_callee (f := 17) rfl ?_); refine goesL_ (some 29) rfl rfl Try.func17 (by kernel_rfl) rfl #[.pointer (some ⟨g180, 0, none⟩), .int .i64 8] rfl (by (try simp only [List.map_toArray, List.map_cons, List.map_nil]); first | done | rfl | (simp only [List.length_drop, List.length_take]; rfl)) ?_; (with_reducible refine (cursor_Cursor_Num.calls k g180 t175 t176 t177 t178 t179 8 t208 t209 t210 t211 t212 t213 w _ ?side1 ?side2 A7.out).mono ?_); (case side1 => repeat (first | (with_reducible first | exact HI180.out | apply IsS35.alloc | apply IsS35.drewN | apply IsS35.drew | apply IsS35.set_0 | apply IsS35.set_1 | apply IsS35.set_2 | apply IsS35.set_3 | apply IsS35.set_4 | refine IsS35.far ?_ NB180_207.out (by repeat (first | exact TypeAt.mk BK207.out | apply TypeAt.set | apply TypeAt.alloc | apply TypeAt.drewN | apply TypeAt.drew)) (by decide) _) | exact HI180.out)); (case side2 => repeat (first | (with_reducible first | exact HB.out | apply below_alloc | apply pw_below_drewN | apply below_drew1 | refine below_set ?_ (IsS35.ge HI171.out) | refine below_set ?_ (IsS35.ge HI180.out) | refine below_set ?_ GE207.out) | exact HB.out)); rintro e w36 ⟨rfl, hi, hb, hk⟩; refine ⟨_, rfl, ?_⟩; have n0_ := Aside0.mk (Kd.R_mono (Kd.R_keep (IsS35.apart (show IsS35 w _ g180 t175 t176 t177 t178 t179 from by repeat (first | (with_reducible first | exact HI180.out | apply IsS35.alloc | apply IsS35.drewN | apply IsS35.drew | apply IsS35.set_0 | apply IsS35.set_1 | apply IsS35.set_2 | apply IsS35.set_3 | apply IsS35.set_4 | refine IsS35.far ?_ NB180_207.out (by repeat (first | exact TypeAt.mk BK207.out | apply TypeAt.set | apply TypeAt.alloc | apply TypeAt.drewN | apply TypeAt.drew)) (by decide) _) | exact HI180.out)) (by (with_reducible repeat (first | apply Kd.R_alloc | apply Kd.R_drewN | apply Kd.R_drew)); exact (Kd.R_mono (Kd.R_far (p := ⟨gb207, 2, none⟩) (Kd.R_far (p := ⟨gb207, 1, none⟩) (Kd.R_far (p := ⟨gb207, 0, none⟩) (Kd.R_types HO165.out BK207.out (by decide)) (fun _ hk => hk.2) (.int .i64 t199)) (fun _ hk => hk.2) (.int .i64 t200)) (fun _ hk => hk.2) (.int .i64 t201)) (fun _ h_ => h_.1))) (by decide)) hk (fun _ h => h.2)) (fun _ h => h.1)); have n1_ := Aside0.mk ((IsS35.keepS (show IsS35 w _ g171 t202 t203 t204 t205 t206 from by repeat (first | (with_reducible first | exact HI171.out | apply IsS35.alloc | apply IsS35.drewN | apply IsS35.drew | apply IsS35.set_0 | apply IsS35.set_1 | apply IsS35.set_2 | apply IsS35.set_3 | apply IsS35.set_4 | refine IsS35.far ?_ NB171_207.out (by repeat (first | exact TypeAt.mk BK207.out | apply TypeAt.set | apply TypeAt.alloc | apply TypeAt.drewN | apply TypeAt.drew)) (by decide) _) | exact HI171.out)) hk NB171_180.out (IsS35.cells (show IsS35 w _ g180 t175 t176 t177 t178 t179 from by repeat (first | (with_reducible first | exact HI180.out | apply IsS35.alloc | apply IsS35.drewN | apply IsS35.drew | apply IsS35.set_0 | apply IsS35.set_1 | apply IsS35.set_2 | apply IsS35.set_3 | apply IsS35.set_4 | refine IsS35.far ?_ NB180_207.out (by repeat (first | exact TypeAt.mk BK207.out | apply TypeAt.set | apply TypeAt.alloc | apply TypeAt.drewN | apply TypeAt.drew)) (by decide) _) | exact HI180.out))))); have n2_ := Aside0.mk (Kd.R_mono (Kd.R_keep (IsS35.apart (show IsS35 w _ g180 t175 t176 t177 t178 t179 from by repeat (first | (with_reducible first | exact HI180.out | apply IsS35.alloc | apply IsS35.drewN | apply IsS35.drew | apply IsS35.set_0 | apply IsS35.set_1 | apply IsS35.set_2 | apply IsS35.set_3 | apply IsS35.set_4 | refine IsS35.far ?_ NB180_207.out (by repeat (first | exact TypeAt.mk BK207.out | apply TypeAt.set | apply TypeAt.alloc | apply TypeAt.drewN | apply TypeAt.drew)) (by decide) _) | exact HI180.out)) (by (with_reducible repeat (first | apply Kd.R_alloc | apply Kd.R_drewN | apply Kd.R_drew)); exact (Kd.R_mono (Kd.R_far (p := ⟨gb207, 2, none⟩) (Kd.R_far (p := ⟨gb207, 1, none⟩) (Kd.R_far (p := ⟨gb207, 0, none⟩) (Kd.R_types HO174.out BK207.out (by decide)) (fun _ hk => hk.2) (.int .i64 t199)) (fun _ hk => hk.2) (.int .i64 t200)) (fun _ hk => hk.2) (.int .i64 t201)) (fun _ h_ => h_.1))) (by decide)) hk (fun _ h => h.2)) (fun _ h => h.1)); have n3_ := Aside0.mk (KeepBut.blk hk (g' := gb207) (o := .cells #[.int .i64 t199, .int .i64 t200, .int .i64 t201] 31 (0, 0)) (by (with_reducible repeat (first | refine blk_drewN ?_ _ | refine blk_drew ?_ | refine blk_alloc ?_ _)); refine blk_put (cs := #[.int .i64 t199, .int .i64 t200, .int .i64 0]) ?_ 2 _ rfl; (with_reducible repeat (first | refine blk_drewN ?_ _ | refine blk_drew ?_ | refine blk_alloc ?_ _)); refine blk_put (cs := #[.int .i64 t199, .int .i64 0, .int .i64 0]) ?_ 1 _ rfl; (with_reducible repeat (first | refine blk_drewN ?_ _ | refine blk_drew ?_ | refine blk_alloc ?_ _)); refine blk_put (cs := #[.int .i64 0, .int .i64 0, .int .i64 0]) ?_ 0 _ rfl; (with_reducible repeat (first | refine blk_drewN ?_ _ | refine blk_drew ?_ | refine blk_alloc ?_ _)); exact BK207.out) NB207_180.out (by simp)); have n4_ := Aside0.mk (hb); have n5_ := Aside0.mk (hi); clear HO165; clear HI171; clear HO174; clear BK207; clear HB; clear HI180; have HO165 := n0_; have HI171 := n1_; have HO174 := n2_; have BK207 := n3_; have HB := n4_; have HI180 := n5_; clear n0_ n1_ n2_ n3_ n4_ n5_; (try clear hb); (try clear hb2); (try clear hk); (try clear hi)))
                  have n0_ := Aside0.mk (Kd.R_drew HO165.out)
                  have n1_ := Aside0.mk (Kd.R_drew HO174.out)
                  have n2_ := Aside0.mk (blk_drew BK207.out)
                  have n3_ := Aside0.mk (IsS35.drew HI171.out)
                  have n4_ := Aside0.mk (IsS35.drew HI180.out)
                  have n5_ := Aside0.mk (below_drew1 HB.out)
                  clear HO165
                  clear HO174
                  clear BK207
                  clear HI171
                  clear HI180
                  clear HB
                  have HO165 := n0_
                  have HO174 := n1_
                  have BK207 := n2_
                  have HI171 := n3_
                  have HI180 := n4_
                  have HB := n5_
                  clear n0_ n1_ n2_ n3_ n4_ n5_
                  refine start_ (n := 46) (S := fun w' => w'.cell? ⟨gb207, 0, none⟩ = some (.int .i64 t199) ∧ w'.cell? ⟨gb207, 1, none⟩ = some (.int .i64 t200) ∧ w'.cell? ⟨gb207, 2, none⟩ = some (.int .i64 t201)) (ds := []) #[false, false, false, false, false, false, false, false, false, false, false, false, false, false, false, false, false, false, false, false, false, false, false, false, false, false, false, false, false, false, false, false, false, false, false, false, false, false, false, false, false, false, false, false, false, false] (by kernel_rfl) rfl rfl ⟨(blk_cell BK207.out 0).trans rfl, (blk_cell BK207.out 1).trans rfl, (blk_cell BK207.out 2).trans rfl⟩ (fun hHeld => ?_); refine with_tabW decklelaw04_small.tab10 decklelaw04_small.bits10 (fun HT_ HW_ => ?_)
                  generalize w36.drew = w37 at HO165 HO174 BK207 HI171 HI180 HB hHeld ⊢
                  refine pure_ (i := 0) (N := some 30) (v := ?_) (a' := ?_) #[true, false, false, false, false, false, false, false, false, false, false, false, false, false, false, false, false, false, false, false, false, false, false, false, false, false, false, false, false, false, false, false, false, false, false, false, false, false, false, false, false, false, false, false, false, false] rfl rfl (any_of HT_.out (by kernel_rfl)) (fun _ _ _ h => h) (Or.inl ⟨by rfl, ?_⟩) ?_ ?_
                  rotate_left
                  · intro w'
                    go_simp
                    with_reducible rfl
                  rotate_left
                  · simp only [Act.put, List.setIfInBounds_toArray, List.set_cons_zero, List.set_cons_succ, i64_w, i32_w]
                    rfl
                  refine pure_ (i := 1) (N := some 31) (v := ?_) (a' := ?_) #[true, true, false, false, false, false, false, false, false, false, false, false, false, false, false, false, false, false, false, false, false, false, false, false, false, false, false, false, false, false, false, false, false, false, false, false, false, false, false, false, false, false, false, false, false, false] rfl rfl (any_of HT_.out (by kernel_rfl)) (fun _ _ _ h => h) (Or.inl ⟨by rfl, ?_⟩) ?_ ?_
                  rotate_left
                  · intro w'
                    go_simp
                    with_reducible rfl
                  rotate_left
                  · simp only [Act.put, List.setIfInBounds_toArray, List.set_cons_zero, List.set_cons_succ, i64_w, i32_w]
                    rfl
                  refine pure_ (i := 2) (N := some 32) (v := ?_) (a' := ?_) #[true, true, true, false, false, false, false, false, false, false, false, false, false, false, false, false, false, false, false, false, false, false, false, false, false, false, false, false, false, false, false, false, false, false, false, false, false, false, false, false, false, false, false, false, false, false] rfl rfl (any_of HT_.out (by kernel_rfl)) (fun _ _ _ h => h) (Or.inl ⟨by rfl, ?_⟩) ?_ ?_
                  rotate_left
                  · intro w'
                    go_simp
                    with_reducible rfl
                  rotate_left
                  · simp only [Act.put, List.setIfInBounds_toArray, List.set_cons_zero, List.set_cons_succ, i64_w, i32_w]
                    rfl
                  refine pure_ (i := 3) (N := some 33) (v := ?_) (a' := ?_) #[true, true, true, true, false, false, false, false, false, false, false, false, false, false, false, false, false, false, false, false, false, false, false, false, false, false, false, false, false, false, false, false, false, false, false, false, false, false, false, false, false, false, false, false, false, false] rfl rfl (any_of HT_.out (by kernel_rfl)) (fun _ _ _ h => h) (Or.inl ⟨by rfl, ?_⟩) ?_ ?_
                  rotate_left
                  · intro w'
                    go_simp
                    with_reducible rfl
                  rotate_left
                  · simp only [Act.put, List.setIfInBounds_toArray, List.set_cons_zero, List.set_cons_succ, i64_w, i32_w]
                    rfl
                  refine pure_ (i := 4) (N := some 34) (v := ?_) (a' := ?_) #[true, true, true, true, true, false, false, false, false, false, false, false, false, false, false, false, false, false, false, false, false, false, false, false, false, false, false, false, false, false, false, false, false, false, false, false, false, false, false, false, false, false, false, false, false, false] rfl rfl (any_of HT_.out (by kernel_rfl)) (fun _ _ _ h => h) (Or.inl ⟨by rfl, ?_⟩) ?_ ?_
                  rotate_left
                  · intro w'
                    go_simp
                    with_reducible rfl
                  rotate_left
                  · simp only [Act.put, List.setIfInBounds_toArray, List.set_cons_zero, List.set_cons_succ, i64_w, i32_w]
                    rfl
                  refine pure_ (i := 5) (N := some 35) (v := ?_) (a' := ?_) #[true, true, true, true, true, true, false, false, false, false, false, false, false, false, false, false, false, false, false, false, false, false, false, false, false, false, false, false, false, false, false, false, false, false, false, false, false, false, false, false, false, false, false, false, false, false] rfl rfl (any_of HT_.out (by kernel_rfl)) (fun _ _ _ h => h) (Or.inl ⟨by rfl, ?_⟩) ?_ ?_
                  rotate_left
                  · intro w'
                    go_simp
                    with_reducible rfl
                  rotate_left
                  · simp only [Act.put, List.setIfInBounds_toArray, List.set_cons_zero, List.set_cons_succ, i64_w, i32_w]
                    rfl
                  refine pure_ (i := 6) (N := some 36) (v := ?_) (a' := ?_) #[true, true, true, true, true, true, true, false, false, false, false, false, false, false, false, false, false, false, false, false, false, false, false, false, false, false, false, false, false, false, false, false, false, false, false, false, false, false, false, false, false, false, false, false, false, false] rfl rfl (any_of HT_.out (by kernel_rfl)) (fun _ _ _ h => h) (Or.inl ⟨by rfl, ?_⟩) ?_ ?_
                  rotate_left
                  · intro w'
                    go_simp
                    with_reducible rfl
                  rotate_left
                  · simp only [Act.put, List.setIfInBounds_toArray, List.set_cons_zero, List.set_cons_succ, i64_w, i32_w]
                    rfl
                  refine pure_ (i := 7) (N := some 37) (v := ?_) (a' := ?_) #[true, true, true, true, true, true, true, true, false, false, false, false, false, false, false, false, false, false, false, false, false, false, false, false, false, false, false, false, false, false, false, false, false, false, false, false, false, false, false, false, false, false, false, false, false, false] rfl rfl (any_of HT_.out (by kernel_rfl)) (fun _ _ _ h => h) (Or.inl ⟨by rfl, ?_⟩) ?_ ?_
                  rotate_left
                  · intro w'
                    go_simp
                    with_reducible rfl
                  rotate_left
                  · simp only [Act.put, List.setIfInBounds_toArray, List.set_cons_zero, List.set_cons_succ, i64_w, i32_w]
                    rfl
                  refine pure_ (i := 8) (N := some 38) (v := ?_) (a' := ?_) #[true, true, true, true, true, true, true, true, true, false, false, false, false, false, false, false, false, false, false, false, false, false, false, false, false, false, false, false, false, false, false, false, false, false, false, false, false, false, false, false, false, false, false, false, false, false] rfl rfl (any_of HT_.out (by kernel_rfl)) (fun _ _ _ h => h) (Or.inl ⟨by rfl, ?_⟩) ?_ ?_
                  rotate_left
                  · intro w'
                    go_simp
                    with_reducible rfl
                  rotate_left
                  · simp only [Act.put, List.setIfInBounds_toArray, List.set_cons_zero, List.set_cons_succ, i64_w, i32_w]
                    rfl
                  refine pure_ (i := 9) (N := some 39) (v := ?_) (a' := ?_) #[true, true, true, true, true, true, true, true, true, true, false, false, false, false, false, false, false, false, false, false, false, false, false, false, false, false, false, false, false, false, false, false, false, false, false, false, false, false, false, false, false, false, false, false, false, false] rfl rfl (any_of HT_.out (by kernel_rfl)) (fun _ _ _ h => h) (Or.inl ⟨by rfl, ?_⟩) ?_ ?_
                  rotate_left
                  · intro w'
                    go_simp
                    with_reducible rfl
                  rotate_left
                  · simp only [Act.put, List.setIfInBounds_toArray, List.set_cons_zero, List.set_cons_succ, i64_w, i32_w]
                    rfl
                  refine pure_ (i := 10) (N := some 40) (v := ?_) (a' := ?_) #[true, true, true, true, true, true, true, true, true, true, true, false, false, false, false, false, false, false, false, false, false, false, false, false, false, false, false, false, false, false, false, false, false, false, false, false, false, false, false, false, false, false, false, false, false, false] rfl rfl (any_of HT_.out (by kernel_rfl)) (fun _ _ _ h => h) (Or.inl ⟨by rfl, ?_⟩) ?_ ?_
                  rotate_left
                  · intro w'
                    go_simp
                    with_reducible rfl
                  rotate_left
                  · simp only [Act.put, List.setIfInBounds_toArray, List.set_cons_zero, List.set_cons_succ, i64_w, i32_w]
                    rfl
                  refine pure_ (i := 12) (N := some 42) (v := ?_) (a' := ?_) #[true, true, true, true, true, true, true, true, true, true, true, false, true, false, false, false, false, false, false, false, false, false, false, false, false, false, false, false, false, false, false, false, false, false, false, false, false, false, false, false, false, false, false, false, false, false] rfl rfl (any_of HT_.out (by kernel_rfl)) (fun _ _ _ h => h) (Or.inl ⟨by rfl, ?_⟩) ?_ ?_
                  rotate_left
                  · intro w'
                    go_simp
                    with_reducible rfl
                  rotate_left
                  · simp only [Act.put, List.setIfInBounds_toArray, List.set_cons_zero, List.set_cons_succ, i64_w, i32_w]
                    rfl
                  refine take_ (i := 11) (N := some 41) (v := ?_) (a' := ?_) #[true, true, true, true, true, true, true, true, true, true, true, true, true, false, false, false, false, false, false, false, false, false, false, false, false, false, false, false, false, false, false, false, false, false, false, false, false, false, false, false, false, false, false, false, false, false] rfl rfl (take_ofW HT_.out HW_.out (by kernel_rfl)) (fun _ _ _ h => h) (Or.inl ⟨by rfl, ?_⟩) hHeld ?_ ?_
                  rotate_left
                  · rintro w' ⟨s0, s1, s2⟩
                    go_simp
                    with_reducible rfl
                  rotate_left
                  · simp only [Act.put, List.setIfInBounds_toArray, List.set_cons_zero, List.set_cons_succ, i64_w, i32_w]
                    rfl
                  refine pure_ (i := 13) (N := some 43) (v := ?_) (a' := ?_) #[true, true, true, true, true, true, true, true, true, true, true, true, true, true, false, false, false, false, false, false, false, false, false, false, false, false, false, false, false, false, false, false, false, false, false, false, false, false, false, false, false, false, false, false, false, false] rfl rfl (any_of HT_.out (by kernel_rfl)) (fun _ _ _ h => h) (Or.inl ⟨by rfl, ?_⟩) ?_ ?_
                  rotate_left
                  · intro w'
                    go_simp
                    with_reducible rfl
                  rotate_left
                  · simp only [Act.put, List.setIfInBounds_toArray, List.set_cons_zero, List.set_cons_succ, i64_w, i32_w]
                    rfl
                  refine pure_ (i := 14) (N := some 44) (v := ?_) (a' := ?_) #[true, true, true, true, true, true, true, true, true, true, true, true, true, true, true, false, false, false, false, false, false, false, false, false, false, false, false, false, false, false, false, false, false, false, false, false, false, false, false, false, false, false, false, false, false, false] rfl rfl (any_of HT_.out (by kernel_rfl)) (fun _ _ _ h => h) (Or.inl ⟨by rfl, ?_⟩) ?_ ?_
                  rotate_left
                  · intro w'
                    go_simp
                    with_reducible rfl
                  rotate_left
                  · simp only [Act.put, List.setIfInBounds_toArray, List.set_cons_zero, List.set_cons_succ, i64_w, i32_w]
                    rfl
                  refine pure_ (i := 15) (N := some 45) (v := ?_) (a' := ?_) #[true, true, true, true, true, true, true, true, true, true, true, true, true, true, true, true, false, false, false, false, false, false, false, false, false, false, false, false, false, false, false, false, false, false, false, false, false, false, false, false, false, false, false, false, false, false] rfl rfl (any_of HT_.out (by kernel_rfl)) (fun _ _ _ h => h) (Or.inl ⟨by rfl, ?_⟩) ?_ ?_
                  rotate_left
                  · intro w'
                    go_simp
                    with_reducible rfl
                  rotate_left
                  · simp only [Act.put, List.setIfInBounds_toArray, List.set_cons_zero, List.set_cons_succ, i64_w, i32_w]
                    rfl
                  refine pure_ (i := 16) (N := some 46) (v := ?_) (a' := ?_) #[true, true, true, true, true, true, true, true, true, true, true, true, true, true, true, true, true, false, false, false, false, false, false, false, false, false, false, false, false, false, false, false, false, false, false, false, false, false, false, false, false, false, false, false, false, false] rfl rfl (any_of HT_.out (by kernel_rfl)) (fun _ _ _ h => h) (Or.inl ⟨by rfl, ?_⟩) ?_ ?_
                  rotate_left
                  · intro w'
                    go_simp
                    with_reducible rfl
                  rotate_left
                  · simp only [Act.put, List.setIfInBounds_toArray, List.set_cons_zero, List.set_cons_succ, i64_w, i32_w]
                    rfl
                  refine pure_ (i := 17) (N := some 47) (v := ?_) (a' := ?_) #[true, true, true, true, true, true, true, true, true, true, true, true, true, true, true, true, true, true, false, false, false, false, false, false, false, false, false, false, false, false, false, false, false, false, false, false, false, false, false, false, false, false, false, false, false, false] rfl rfl (any_of HT_.out (by kernel_rfl)) (fun _ _ _ h => h) (Or.inl ⟨by rfl, ?_⟩) ?_ ?_
                  rotate_left
                  · intro w'
                    go_simp
                    with_reducible rfl
                  rotate_left
                  · simp only [Act.put, List.setIfInBounds_toArray, List.set_cons_zero, List.set_cons_succ, i64_w, i32_w]
                    rfl
                  refine pure_ (i := 18) (N := some 48) (v := ?_) (a' := ?_) #[true, true, true, true, true, true, true, true, true, true, true, true, true, true, true, true, true, true, true, false, false, false, false, false, false, false, false, false, false, false, false, false, false, false, false, false, false, false, false, false, false, false, false, false, false, false] rfl rfl (any_of HT_.out (by kernel_rfl)) (fun _ _ _ h => h) (Or.inl ⟨by rfl, ?_⟩) ?_ ?_
                  rotate_left
                  · intro w'
                    go_simp
                    with_reducible rfl
                  rotate_left
                  · simp only [Act.put, List.setIfInBounds_toArray, List.set_cons_zero, List.set_cons_succ, i64_w, i32_w]
                    rfl
                  refine one_ (i := 19) (N := some 49) #[true, true, true, true, true, true, true, true, true, true, true, true, true, true, true, true, true, true, true, true, false, false, false, false, false, false, false, false, false, false, false, false, false, false, false, false, false, false, false, false, false, false, false, false, false, false] rfl rfl (one_of HT_.out (by kernel_rfl)) (by decide) (fun K hK => ?_)
                  refine goes_ Try.func12 (by kernel_rfl) rfl #[.pointer (some ⟨g171, 0, none⟩)] (by rfl) rfl rfl (by (try simp only [List.map_toArray, List.map_cons, List.map_nil]); first | done | rfl | (simp only [List.length_drop, List.length_take]; rfl)) ?_
                  with_reducible refine (cursor_place_At.calls g171 t202 t203 t204 t205 t206 t214 t215 t216 t217 t218 t219 w _ ?side1 ?side2 A12.out).mono ?_
                  (case side1 => repeat (first | (with_reducible first | exact HI171.out | apply IsS35.alloc | apply IsS35.drewN | apply IsS35.drew | apply IsS35.set_0 | apply IsS35.set_1 | apply IsS35.set_2 | apply IsS35.set_3 | apply IsS35.set_4 | refine IsS35.far ?_ NB171_207.out (by repeat (first | exact TypeAt.mk BK207.out | apply TypeAt.set | apply TypeAt.alloc | apply TypeAt.drewN | apply TypeAt.drew)) (by decide) _) | exact HI171.out))
                  (case side2 => repeat (first | (with_reducible first | exact HB.out | apply below_alloc | apply pw_below_drewN | apply below_drew1 | refine below_set ?_ (IsS35.ge HI171.out) | refine below_set ?_ (IsS35.ge HI180.out) | refine below_set ?_ GE207.out) | exact HB.out))
                  rintro e w38 ⟨rfl, hi, hb, hk⟩
                  refine ⟨_, rfl, ?_⟩
                  have n0_ := Aside0.mk (Kd.R_mono (Kd.R_keep (IsS35.apart (show IsS35 w _ g171 t202 t203 t204 t205 t206 from by repeat (first | (with_reducible first | exact HI171.out | apply IsS35.alloc | apply IsS35.drewN | apply IsS35.drew | apply IsS35.set_0 | apply IsS35.set_1 | apply IsS35.set_2 | apply IsS35.set_3 | apply IsS35.set_4 | refine IsS35.far ?_ NB171_207.out (by repeat (first | exact TypeAt.mk BK207.out | apply TypeAt.set | apply TypeAt.alloc | apply TypeAt.drewN | apply TypeAt.drew)) (by decide) _) | exact HI171.out)) (by (with_reducible repeat (first | apply Kd.R_alloc | apply Kd.R_drewN | apply Kd.R_drew)); exact HO165.out) (by decide)) hk (fun _ h => h.2)) (fun _ h => h.1))
                  have n1_ := Aside0.mk (Kd.R_mono (Kd.R_keep (IsS35.apart (show IsS35 w _ g171 t202 t203 t204 t205 t206 from by repeat (first | (with_reducible first | exact HI171.out | apply IsS35.alloc | apply IsS35.drewN | apply IsS35.drew | apply IsS35.set_0 | apply IsS35.set_1 | apply IsS35.set_2 | apply IsS35.set_3 | apply IsS35.set_4 | refine IsS35.far ?_ NB171_207.out (by repeat (first | exact TypeAt.mk BK207.out | apply TypeAt.set | apply TypeAt.alloc | apply TypeAt.drewN | apply TypeAt.drew)) (by decide) _) | exact HI171.out)) (by (with_reducible repeat (first | apply Kd.R_alloc | apply Kd.R_drewN | apply Kd.R_drew)); exact HO174.out) (by decide)) hk (fun _ h => h.2)) (fun _ h => h.1))
                  have n2_ := Aside0.mk ((IsS35.keepS (show IsS35 w _ g180 t209 t210 t211 t212 t213 from by repeat (first | (with_reducible first | exact HI180.out | apply IsS35.alloc | apply IsS35.drewN | apply IsS35.drew | apply IsS35.set_0 | apply IsS35.set_1 | apply IsS35.set_2 | apply IsS35.set_3 | apply IsS35.set_4 | refine IsS35.far ?_ NB180_207.out (by repeat (first | exact TypeAt.mk BK207.out | apply TypeAt.set | apply TypeAt.alloc | apply TypeAt.drewN | apply TypeAt.drew)) (by decide) _) | exact HI180.out)) hk NB180_171.out (IsS35.cells (show IsS35 w _ g171 t202 t203 t204 t205 t206 from by repeat (first | (with_reducible first | exact HI171.out | apply IsS35.alloc | apply IsS35.drewN | apply IsS35.drew | apply IsS35.set_0 | apply IsS35.set_1 | apply IsS35.set_2 | apply IsS35.set_3 | apply IsS35.set_4 | refine IsS35.far ?_ NB171_207.out (by repeat (first | exact TypeAt.mk BK207.out | apply TypeAt.set | apply TypeAt.alloc | apply TypeAt.drewN | apply TypeAt.drew)) (by decide) _) | exact HI171.out)))))
                  have n3_ := Aside0.mk (KeepBut.blk hk (g' := gb207) (o := .cells #[.int .i64 t199, .int .i64 t200, .int .i64 t201] 31 (0, 0)) (by (with_reducible repeat (first | refine blk_drewN ?_ _ | refine blk_drew ?_ | refine blk_alloc ?_ _)); exact BK207.out) NB207_171.out (by simp))
                  have n4_ := Aside0.mk (hb)
                  have n5_ := Aside0.mk (hi)
                  clear HO165
                  clear HO174
                  clear HI180
                  clear BK207
                  clear HB
                  clear HI171
                  have HO165 := n0_
                  have HO174 := n1_
                  have HI180 := n2_
                  have BK207 := n3_
                  have HB := n4_
                  have HI171 := n5_
                  clear n0_ n1_ n2_ n3_ n4_ n5_
                  (try clear hb)
                  (try clear hb2)
                  (try clear hk)
                  (try clear hi)
                  refine hK.out _ _ ⟨(blk_cell BK207.out 0).trans rfl, (blk_cell BK207.out 1).trans rfl, (blk_cell BK207.out 2).trans rfl⟩ (fun hHeld => ?_)
                  clear hK K
                  refine norm_ (a' := ?_) ?_ ?_
                  rotate_left
                  · show Act.put _ (some 49) _ = _
                    simp only [Act.put, List.setIfInBounds_toArray, List.set_cons_zero, List.set_cons_succ, i64_w, i32_w]
                    rfl
                  refine pure_ (i := 20) (N := some 50) (v := ?_) (a' := ?_) #[true, true, true, true, true, true, true, true, true, true, true, true, true, true, true, true, true, true, true, true, true, false, false, false, false, false, false, false, false, false, false, false, false, false, false, false, false, false, false, false, false, false, false, false, false, false] rfl rfl (any_of HT_.out (by kernel_rfl)) (fun _ _ _ h => h) (Or.inl ⟨by rfl, ?_⟩) ?_ ?_
                  rotate_left
                  · intro w'
                    go_simp
                    with_reducible rfl
                  rotate_left
                  · simp only [Act.put, List.setIfInBounds_toArray, List.set_cons_zero, List.set_cons_succ, i64_w, i32_w]
                    rfl
                  refine pure_ (i := 21) (N := some 51) (v := ?_) (a' := ?_) #[true, true, true, true, true, true, true, true, true, true, true, true, true, true, true, true, true, true, true, true, true, true, false, false, false, false, false, false, false, false, false, false, false, false, false, false, false, false, false, false, false, false, false, false, false, false] rfl rfl (any_of HT_.out (by kernel_rfl)) (fun _ _ _ h => h) (Or.inl ⟨by rfl, ?_⟩) ?_ ?_
                  rotate_left
                  · intro w'
                    go_simp
                    with_reducible rfl
                  rotate_left
                  · simp only [Act.put, List.setIfInBounds_toArray, List.set_cons_zero, List.set_cons_succ, i64_w, i32_w]
                    rfl
                  refine pure_ (i := 22) (N := some 52) (v := ?_) (a' := ?_) #[true, true, true, true, true, true, true, true, true, true, true, true, true, true, true, true, true, true, true, true, true, true, true, false, false, false, false, false, false, false, false, false, false, false, false, false, false, false, false, false, false, false, false, false, false, false] rfl rfl (any_of HT_.out (by kernel_rfl)) (fun _ _ _ h => h) (Or.inl ⟨by rfl, ?_⟩) ?_ ?_
                  rotate_left
                  · intro w'
                    go_simp
                    with_reducible rfl
                  rotate_left
                  · simp only [Act.put, List.setIfInBounds_toArray, List.set_cons_zero, List.set_cons_succ, i64_w, i32_w]
                    rfl
                  refine pure_ (i := 23) (N := some 53) (v := ?_) (a' := ?_) #[true, true, true, true, true, true, true, true, true, true, true, true, true, true, true, true, true, true, true, true, true, true, true, true, false, false, false, false, false, false, false, false, false, false, false, false, false, false, false, false, false, false, false, false, false, false] rfl rfl (any_of HT_.out (by kernel_rfl)) (fun _ _ _ h => h) (Or.inl ⟨by rfl, ?_⟩) ?_ ?_
                  rotate_left
                  · intro w'
                    go_simp
                    with_reducible rfl
                  rotate_left
                  · simp only [Act.put, List.setIfInBounds_toArray, List.set_cons_zero, List.set_cons_succ, i64_w, i32_w]
                    rfl
                  refine one_ (i := 24) (N := some 54) #[true, true, true, true, true, true, true, true, true, true, true, true, true, true, true, true, true, true, true, true, true, true, true, true, true, false, false, false, false, false, false, false, false, false, false, false, false, false, false, false, false, false, false, false, false, false] rfl rfl (one_of HT_.out (by kernel_rfl)) (by decide) (fun K hK => ?_)
                  refine goes_ Try.func10 (by kernel_rfl) rfl #[.pointer (some ⟨g171, 0, none⟩)] (by rfl) rfl rfl (by (try simp only [List.map_toArray, List.map_cons, List.map_nil]); first | done | rfl | (simp only [List.length_drop, List.length_take]; rfl)) ?_
                  with_reducible refine (cursor_Cursor_Left.calls g171 t215 t216 t217 t218 t219 t220 t221 t222 t223 t224 t225 w _ ?side1 ?side2 A14.out).mono ?_
                  (case side1 => repeat (first | (with_reducible first | exact HI171.out | apply IsS35.alloc | apply IsS35.drewN | apply IsS35.drew | apply IsS35.set_0 | apply IsS35.set_1 | apply IsS35.set_2 | apply IsS35.set_3 | apply IsS35.set_4 | refine IsS35.far ?_ NB171_207.out (by repeat (first | exact TypeAt.mk BK207.out | apply TypeAt.set | apply TypeAt.alloc | apply TypeAt.drewN | apply TypeAt.drew)) (by decide) _) | exact HI171.out))
                  (case side2 => repeat (first | (with_reducible first | exact HB.out | apply below_alloc | apply pw_below_drewN | apply below_drew1 | refine below_set ?_ (IsS35.ge HI171.out) | refine below_set ?_ (IsS35.ge HI180.out) | refine below_set ?_ GE207.out) | exact HB.out))
                  rintro e w39 ⟨rfl, hi, hb, hk⟩
                  refine ⟨_, rfl, ?_⟩
                  have n0_ := Aside0.mk (Kd.R_mono (Kd.R_keep (IsS35.apart (show IsS35 w _ g171 t215 t216 t217 t218 t219 from by repeat (first | (with_reducible first | exact HI171.out | apply IsS35.alloc | apply IsS35.drewN | apply IsS35.drew | apply IsS35.set_0 | apply IsS35.set_1 | apply IsS35.set_2 | apply IsS35.set_3 | apply IsS35.set_4 | refine IsS35.far ?_ NB171_207.out (by repeat (first | exact TypeAt.mk BK207.out | apply TypeAt.set | apply TypeAt.alloc | apply TypeAt.drewN | apply TypeAt.drew)) (by decide) _) | exact HI171.out)) (by (with_reducible repeat (first | apply Kd.R_alloc | apply Kd.R_drewN | apply Kd.R_drew)); exact HO165.out) (by decide)) hk (fun _ h => h.2)) (fun _ h => h.1))
                  have n1_ := Aside0.mk (Kd.R_mono (Kd.R_keep (IsS35.apart (show IsS35 w _ g171 t215 t216 t217 t218 t219 from by repeat (first | (with_reducible first | exact HI171.out | apply IsS35.alloc | apply IsS35.drewN | apply IsS35.drew | apply IsS35.set_0 | apply IsS35.set_1 | apply IsS35.set_2 | apply IsS35.set_3 | apply IsS35.set_4 | refine IsS35.far ?_ NB171_207.out (by repeat (first | exact TypeAt.mk BK207.out | apply TypeAt.set | apply TypeAt.alloc | apply TypeAt.drewN | apply TypeAt.drew)) (by decide) _) | exact HI171.out)) (by (with_reducible repeat (first | apply Kd.R_alloc | apply Kd.R_drewN | apply Kd.R_drew)); exact HO174.out) (by decide)) hk (fun _ h => h.2)) (fun _ h => h.1))
                  have n2_ := Aside0.mk ((IsS35.keepS (show IsS35 w _ g180 t209 t210 t211 t212 t213 from by repeat (first | (with_reducible first | exact HI180.out | apply IsS35.alloc | apply IsS35.drewN | apply IsS35.drew | apply IsS35.set_0 | apply IsS35.set_1 | apply IsS35.set_2 | apply IsS35.set_3 | apply IsS35.set_4 | refine IsS35.far ?_ NB180_207.out (by repeat (first | exact TypeAt.mk BK207.out | apply TypeAt.set | apply TypeAt.alloc | apply TypeAt.drewN | apply TypeAt.drew)) (by decide) _) | exact HI180.out)) hk NB180_171.out (IsS35.cells (show IsS35 w _ g171 t215 t216 t217 t218 t219 from by repeat (first | (with_reducible first | exact HI171.out | apply IsS35.alloc | apply IsS35.drewN | apply IsS35.drew | apply IsS35.set_0 | apply IsS35.set_1 | apply IsS35.set_2 | apply IsS35.set_3 | apply IsS35.set_4 | refine IsS35.far ?_ NB171_207.out (by repeat (first | exact TypeAt.mk BK207.out | apply TypeAt.set | apply TypeAt.alloc | apply TypeAt.drewN | apply TypeAt.drew)) (by decide) _) | exact HI171.out)))))
                  have n3_ := Aside0.mk (KeepBut.blk hk (g' := gb207) (o := .cells #[.int .i64 t199, .int .i64 t200, .int .i64 t201] 31 (0, 0)) (by (with_reducible repeat (first | refine blk_drewN ?_ _ | refine blk_drew ?_ | refine blk_alloc ?_ _)); exact BK207.out) NB207_171.out (by simp))
                  have n4_ := Aside0.mk (hb)
                  have n5_ := Aside0.mk (hi)
                  clear HO165
                  clear HO174
                  clear HI180
                  clear BK207
                  clear HB
                  clear HI171
                  have HO165 := n0_
                  have HO174 := n1_
                  have HI180 := n2_
                  have BK207 := n3_
                  have HB := n4_
                  have HI171 := n5_
                  clear n0_ n1_ n2_ n3_ n4_ n5_
                  (try clear hb)
                  (try clear hb2)
                  (try clear hk)
                  (try clear hi)
                  refine hK.out _ _ ⟨(blk_cell BK207.out 0).trans rfl, (blk_cell BK207.out 1).trans rfl, (blk_cell BK207.out 2).trans rfl⟩ (fun hHeld => ?_)
                  clear hK K
                  refine norm_ (a' := ?_) ?_ ?_
                  rotate_left
                  · show Act.put _ (some 54) _ = _
                    simp only [Act.put, List.setIfInBounds_toArray, List.set_cons_zero, List.set_cons_succ, i64_w, i32_w]
                    rfl
                  refine pure_ (i := 25) (N := some 55) (v := ?_) (a' := ?_) #[true, true, true, true, true, true, true, true, true, true, true, true, true, true, true, true, true, true, true, true, true, true, true, true, true, true, false, false, false, false, false, false, false, false, false, false, false, false, false, false, false, false, false, false, false, false] rfl rfl (any_of HT_.out (by kernel_rfl)) (fun _ _ _ h => h) (Or.inl ⟨by rfl, ?_⟩) ?_ ?_
                  rotate_left
                  · intro w'
                    go_simp
                    with_reducible rfl
                  rotate_left
                  · simp only [Act.put, List.setIfInBounds_toArray, List.set_cons_zero, List.set_cons_succ, i64_w, i32_w]
                    rfl
                  refine pure_ (i := 26) (N := some 56) (v := ?_) (a' := ?_) #[true, true, true, true, true, true, true, true, true, true, true, true, true, true, true, true, true, true, true, true, true, true, true, true, true, true, true, false, false, false, false, false, false, false, false, false, false, false, false, false, false, false, false, false, false, false] rfl rfl (any_of HT_.out (by kernel_rfl)) (fun _ _ _ h => h) (Or.inl ⟨by rfl, ?_⟩) ?_ ?_
                  rotate_left
                  · intro w'
                    go_simp
                    with_reducible rfl
                  rotate_left
                  · simp only [Act.put, List.setIfInBounds_toArray, List.set_cons_zero, List.set_cons_succ, i64_w, i32_w]
                    rfl
                  refine pure_ (i := 27) (N := some 57) (v := ?_) (a' := ?_) #[true, true, true, true, true, true, true, true, true, true, true, true, true, true, true, true, true, true, true, true, true, true, true, true, true, true, true, true, false, false, false, false, false, false, false, false, false, false, false, false, false, false, false, false, false, false] rfl rfl (any_of HT_.out (by kernel_rfl)) (fun _ _ _ h => h) (Or.inl ⟨by rfl, ?_⟩) ?_ ?_
                  rotate_left
                  · intro w'
                    go_simp
                    with_reducible rfl
                  rotate_left
                  · simp only [Act.put, List.setIfInBounds_toArray, List.set_cons_zero, List.set_cons_succ, i64_w, i32_w]
                    rfl
                  refine pure_ (i := 28) (N := some 58) (v := ?_) (a' := ?_) #[true, true, true, true, true, true, true, true, true, true, true, true, true, true, true, true, true, true, true, true, true, true, true, true, true, true, true, true, true, false, false, false, false, false, false, false, false, false, false, false, false, false, false, false, false, false] rfl rfl (any_of HT_.out (by kernel_rfl)) (fun _ _ _ h => h) (Or.inl ⟨by rfl, ?_⟩) ?_ ?_
                  rotate_left
                  · intro w'
                    go_simp
                    with_reducible rfl
                  rotate_left
                  · simp only [Act.put, List.setIfInBounds_toArray, List.set_cons_zero, List.set_cons_succ, i64_w, i32_w]
                    rfl
                  refine take_ (i := 30) (N := some 60) (v := ?_) (a' := ?_) #[true, true, true, true, true, true, true, true, true, true, true, true, true, true, true, true, true, true, true, true, true, true, true, true, true, true, true, true, true, false, true, false, false, false, false, false, false, false, false, false, false, false, false, false, false, false] rfl rfl (take_ofW HT_.out HW_.out (by kernel_rfl)) (fun _ _ _ h => h) (Or.inl ⟨by rfl, ?_⟩) hHeld ?_ ?_
                  rotate_left
                  · rintro w' ⟨s0, s1, s2⟩
                    go_simp
                    with_reducible rfl
                  rotate_left
                  · simp only [Act.put, List.setIfInBounds_toArray, List.set_cons_zero, List.set_cons_succ, i64_w, i32_w]
                    rfl
                  refine one_ (i := 29) (N := some 59) #[true, true, true, true, true, true, true, true, true, true, true, true, true, true, true, true, true, true, true, true, true, true, true, true, true, true, true, true, true, true, true, false, false, false, false, false, false, false, false, false, false, false, false, false, false, false] rfl rfl (one_of HT_.out (by kernel_rfl)) (by decide) (fun K hK => ?_)
                  refine goes_ Try.func27 (by kernel_rfl) rfl #[.pointer (some ⟨g171, 0, none⟩)] (by rfl) rfl rfl (by (try simp only [List.map_toArray, List.map_cons, List.map_nil]); first | done | rfl | (simp only [List.length_drop, List.length_take]; rfl)) ?_
                  with_reducible refine (cursor_Cursor_End.calls g171 t221 t222 t223 t224 t225 t226 t227 t228 t229 t230 t231 t232 t233 w _ ?side1 ?side2 A16.out).mono ?_
                  (case side1 => repeat (first | (with_reducible first | exact HI171.out | apply IsS35.alloc | apply IsS35.drewN | apply IsS35.drew | apply IsS35.set_0 | apply IsS35.set_1 | apply IsS35.set_2 | apply IsS35.set_3 | apply IsS35.set_4 | refine IsS35.far ?_ NB171_207.out (by repeat (first | exact TypeAt.mk BK207.out | apply TypeAt.set | apply TypeAt.alloc | apply TypeAt.drewN | apply TypeAt.drew)) (by decide) _) | exact HI171.out))
                  (case side2 => repeat (first | (with_reducible first | exact HB.out | apply below_alloc | apply pw_below_drewN | apply below_drew1 | refine below_set ?_ (IsS35.ge HI171.out) | refine below_set ?_ (IsS35.ge HI180.out) | refine below_set ?_ GE207.out) | exact HB.out))
                  rintro e w40 ⟨rfl, hi, hb, hk⟩
                  refine ⟨_, rfl, ?_⟩
                  have n0_ := Aside0.mk (Kd.R_mono (Kd.R_keep (IsS35.apart (show IsS35 w _ g171 t221 t222 t223 t224 t225 from by repeat (first | (with_reducible first | exact HI171.out | apply IsS35.alloc | apply IsS35.drewN | apply IsS35.drew | apply IsS35.set_0 | apply IsS35.set_1 | apply IsS35.set_2 | apply IsS35.set_3 | apply IsS35.set_4 | refine IsS35.far ?_ NB171_207.out (by repeat (first | exact TypeAt.mk BK207.out | apply TypeAt.set | apply TypeAt.alloc | apply TypeAt.drewN | apply TypeAt.drew)) (by decide) _) | exact HI171.out)) (by (with_reducible repeat (first | apply Kd.R_alloc | apply Kd.R_drewN | apply Kd.R_drew)); exact HO165.out) (by decide)) hk (fun _ h => h.2)) (fun _ h => h.1))
                  have n1_ := Aside0.mk (Kd.R_mono (Kd.R_keep (IsS35.apart (show IsS35 w _ g171 t221 t222 t223 t224 t225 from by repeat (first | (with_reducible first | exact HI171.out | apply IsS35.alloc | apply IsS35.drewN | apply IsS35.drew | apply IsS35.set_0 | apply IsS35.set_1 | apply IsS35.set_2 | apply IsS35.set_3 | apply IsS35.set_4 | refine IsS35.far ?_ NB171_207.out (by repeat (first | exact TypeAt.mk BK207.out | apply TypeAt.set | apply TypeAt.alloc | apply TypeAt.drewN | apply TypeAt.drew)) (by decide) _) | exact HI171.out)) (by (with_reducible repeat (first | apply Kd.R_alloc | apply Kd.R_drewN | apply Kd.R_drew)); exact HO174.out) (by decide)) hk (fun _ h => h.2)) (fun _ h => h.1))
                  have n2_ := Aside0.mk ((IsS35.keepS (show IsS35 w _ g180 t209 t210 t211 t212 t213 from by repeat (first | (with_reducible first | exact HI180.out | apply IsS35.alloc | apply IsS35.drewN | apply IsS35.drew | apply IsS35.set_0 | apply IsS35.set_1 | apply IsS35.set_2 | apply IsS35.set_3 | apply IsS35.set_4 | refine IsS35.far ?_ NB180_207.out (by repeat (first | exact TypeAt.mk BK207.out | apply TypeAt.set | apply TypeAt.alloc | apply TypeAt.drewN | apply TypeAt.drew)) (by decide) _) | exact HI180.out)) hk NB180_171.out (IsS35.cells (show IsS35 w _ g171 t221 t222 t223 t224 t225 from by repeat (first | (with_reducible first | exact HI171.out | apply IsS35.alloc | apply IsS35.drewN | apply IsS35.drew | apply IsS35.set_0 | apply IsS35.set_1 | apply IsS35.set_2 | apply IsS35.set_3 | apply IsS35.set_4 | refine IsS35.far ?_ NB171_207.out (by repeat (first | exact TypeAt.mk BK207.out | apply TypeAt.set | apply TypeAt.alloc | apply TypeAt.drewN | apply TypeAt.drew)) (by decide) _) | exact HI171.out)))))
                  have n3_ := Aside0.mk (KeepBut.blk hk (g' := gb207) (o := .cells #[.int .i64 t199, .int .i64 t200, .int .i64 t201] 31 (0, 0)) (by (with_reducible repeat (first | refine blk_drewN ?_ _ | refine blk_drew ?_ | refine blk_alloc ?_ _)); exact BK207.out) NB207_171.out (by simp))
                  have n4_ := Aside0.mk (hb)
                  have n5_ := Aside0.mk (hi)
                  clear HO165
                  clear HO174
                  clear HI180
                  clear BK207
                  clear HB
                  clear HI171
                  have HO165 := n0_
                  have HO174 := n1_
                  have HI180 := n2_
                  have BK207 := n3_
                  have HB := n4_
                  have HI171 := n5_
                  clear n0_ n1_ n2_ n3_ n4_ n5_
                  (try clear hb)
                  (try clear hb2)
                  (try clear hk)
                  (try clear hi)
                  refine hK.out _ _ ⟨(blk_cell BK207.out 0).trans rfl, (blk_cell BK207.out 1).trans rfl, (blk_cell BK207.out 2).trans rfl⟩ (fun hHeld => ?_)
                  clear hK K
                  refine norm_ (a' := ?_) ?_ ?_
                  rotate_left
                  · show Act.put _ (some 59) _ = _
                    simp only [Act.put, List.setIfInBounds_toArray, List.set_cons_zero, List.set_cons_succ, i64_w, i32_w]
                    rfl
                  refine pure_ (i := 31) (N := some 61) (v := ?_) (a' := ?_) #[true, true, true, true, true, true, true, true, true, true, true, true, true, true, true, true, true, true, true, true, true, true, true, true, true, true, true, true, true, true, true, true, false, false, false, false, false, false, false, false, false, false, false, false, false, false] rfl rfl (any_of HT_.out (by kernel_rfl)) (fun _ _ _ h => h) (Or.inl ⟨by rfl, ?_⟩) ?_ ?_
                  rotate_left
                  · intro w'
                    go_simp
                    with_reducible rfl
                  rotate_left
                  · simp only [Act.put, List.setIfInBounds_toArray, List.set_cons_zero, List.set_cons_succ, i64_w, i32_w]
                    rfl
                  refine pure_ (i := 32) (N := some 62) (v := ?_) (a' := ?_) #[true, true, true, true, true, true, true, true, true, true, true, true, true, true, true, true, true, true, true, true, true, true, true, true, true, true, true, true, true, true, true, true, true, false, false, false, false, false, false, false, false, false, false, false, false, false] rfl rfl (any_of HT_.out (by kernel_rfl)) (fun _ _ _ h => h) (Or.inl ⟨by rfl, ?_⟩) ?_ ?_
                  rotate_left
                  · intro w'
                    go_simp
                    with_reducible rfl
                  rotate_left
                  · simp only [Act.put, List.setIfInBounds_toArray, List.set_cons_zero, List.set_cons_succ, i64_w, i32_w]
                    rfl
                  refine pure_ (i := 33) (N := some 63) (v := ?_) (a' := ?_) #[true, true, true, true, true, true, true, true, true, true, true, true, true, true, true, true, true, true, true, true, true, true, true, true, true, true, true, true, true, true, true, true, true, true, false, false, false, false, false, false, false, false, false, false, false, false] rfl rfl (any_of HT_.out (by kernel_rfl)) (fun _ _ _ h => h) (Or.inl ⟨by rfl, ?_⟩) ?_ ?_
                  rotate_left
                  · intro w'
                    go_simp
                    with_reducible rfl
                  rotate_left
                  · simp only [Act.put, List.setIfInBounds_toArray, List.set_cons_zero, List.set_cons_succ, i64_w, i32_w]
                    rfl
                  refine pure_ (i := 34) (N := some 64) (v := ?_) (a' := ?_) #[true, true, true, true, true, true, true, true, true, true, true, true, true, true, true, true, true, true, true, true, true, true, true, true, true, true, true, true, true, true, true, true, true, true, true, false, false, false, false, false, false, false, false, false, false, false] rfl rfl (any_of HT_.out (by kernel_rfl)) (fun _ _ _ h => h) (Or.inl ⟨by rfl, ?_⟩) ?_ ?_
                  rotate_left
                  · intro w'
                    go_simp
                    with_reducible rfl
                  rotate_left
                  · simp only [Act.put, List.setIfInBounds_toArray, List.set_cons_zero, List.set_cons_succ, i64_w, i32_w]
                    rfl
                  refine pure_ (i := 35) (N := some 65) (v := ?_) (a' := ?_) #[true, true, true, true, true, true, true, true, true, true, true, true, true, true, true, true, true, true, true, true, true, true, true, true, true, true, true, true, true, true, true, true, true, true, true, true, false, false, false, false, false, false, false, false, false, false] rfl rfl (any_of HT_.out (by kernel_rfl)) (fun _ _ _ h => h) (Or.inl ⟨by rfl, ?_⟩) ?_ ?_
                  rotate_left
                  · intro w'
                    go_simp
                    with_reducible rfl
                  rotate_left
                  · simp only [Act.put, List.setIfInBounds_toArray, List.set_cons_zero, List.set_cons_succ, i64_w, i32_w]
                    rfl
                  refine pure_ (i := 36) (N := some 66) (v := ?_) (a' := ?_) #[true, true, true, true, true, true, true, true, true, true, true, true, true, true, true, true, true, true, true, true, true, true, true, true, true, true, true, true, true, true, true, true, true, true, true, true, true, false, false, false, false, false, false, false, false, false] rfl rfl (any_of HT_.out (by kernel_rfl)) (fun _ _ _ h => h) (Or.inl ⟨by rfl, ?_⟩) ?_ ?_
                  rotate_left
                  · intro w'
                    go_simp
                    with_reducible rfl
                  rotate_left
                  · simp only [Act.put, List.setIfInBounds_toArray, List.set_cons_zero, List.set_cons_succ, i64_w, i32_w]
                    rfl
                  refine pure_ (i := 37) (N := some 67) (v := ?_) (a' := ?_) #[true, true, true, true, true, true, true, true, true, true, true, true, true, true, true, true, true, true, true, true, true, true, true, true, true, true, true, true, true, true, true, true, true, true, true, true, true, true, false, false, false, false, false, false, false, false] rfl rfl (any_of HT_.out (by kernel_rfl)) (fun _ _ _ h => h) (Or.inl ⟨by rfl, ?_⟩) ?_ ?_
                  rotate_left
                  · intro w'
                    go_simp
                    with_reducible rfl
                  rotate_left
                  · simp only [Act.put, List.setIfInBounds_toArray, List.set_cons_zero, List.set_cons_succ, i64_w, i32_w]
                    rfl
                  refine pure_ (i := 38) (N := some 68) (v := ?_) (a' := ?_) #[true, true, true, true, true, true, true, true, true, true, true, true, true, true, true, true, true, true, true, true, true, true, true, true, true, true, true, true, true, true, true, true, true, true, true, true, true, true, true, false, false, false, false, false, false, false] rfl rfl (any_of HT_.out (by kernel_rfl)) (fun _ _ _ h => h) (Or.inl ⟨by rfl, ?_⟩) ?_ ?_
                  rotate_left
                  · intro w'
                    go_simp
                    with_reducible rfl
                  rotate_left
                  · simp only [Act.put, List.setIfInBounds_toArray, List.set_cons_zero, List.set_cons_succ, i64_w, i32_w]
                    rfl
                  refine pure_ (i := 39) (N := some 69) (v := ?_) (a' := ?_) #[true, true, true, true, true, true, true, true, true, true, true, true, true, true, true, true, true, true, true, true, true, true, true, true, true, true, true, true, true, true, true, true, true, true, true, true, true, true, true, true, false, false, false, false, false, false] rfl rfl (any_of HT_.out (by kernel_rfl)) (fun _ _ _ h => h) (Or.inl ⟨by rfl, ?_⟩) ?_ ?_
                  rotate_left
                  · intro w'
                    go_simp
                    with_reducible rfl
                  rotate_left
                  · simp only [Act.put, List.setIfInBounds_toArray, List.set_cons_zero, List.set_cons_succ, i64_w, i32_w]
                    rfl
                  refine pure_ (i := 40) (N := some 70) (v := ?_) (a' := ?_) #[true, true, true, true, true, true, true, true, true, true, true, true, true, true, true, true, true, true, true, true, true, true, true, true, true, true, true, true, true, true, true, true, true, true, true, true, true, true, true, true, true, false, false, false, false, false] rfl rfl (any_of HT_.out (by kernel_rfl)) (fun _ _ _ h => h) (Or.inl ⟨by rfl, ?_⟩) ?_ ?_
                  rotate_left
                  · intro w'
                    go_simp
                    with_reducible rfl
                  rotate_left
                  · simp only [Act.put, List.setIfInBounds_toArray, List.set_cons_zero, List.set_cons_succ, i64_w, i32_w]
                    rfl
                  refine pure_ (i := 42) (N := some 72) (v := ?_) (a' := ?_) #[true, true, true, true, true, true, true, true, true, true, true, true, true, true, true, true, true, true, true, true, true, true, true, true, true, true, true, true, true, true, true, true, true, true, true, true, true, true, true, true, true, false, true, false, false, false] rfl rfl (any_of HT_.out (by kernel_rfl)) (fun _ _ _ h => h) (Or.inl ⟨by rfl, ?_⟩) ?_ ?_
                  rotate_left
                  · intro w'
                    go_simp
                    with_reducible rfl
                  rotate_left
                  · simp only [Act.put, List.setIfInBounds_toArray, List.set_cons_zero, List.set_cons_succ, i64_w, i32_w]
                    rfl
                  refine one_ (i := 41) (N := some 71) #[true, true, true, true, true, true, true, true, true, true, true, true, true, true, true, true, true, true, true, true, true, true, true, true, true, true, true, true, true, true, true, true, true, true, true, true, true, true, true, true, true, true, true, false, false, false] rfl rfl (one_of HT_.out (by kernel_rfl)) (by decide) (fun K hK => ?_)
                  refine goes_ Try.func13 (by kernel_rfl) rfl #[.pointer (some ⟨g180, 0, none⟩)] (by rfl) rfl rfl (by (try simp only [List.map_toArray, List.map_cons, List.map_nil]); first | done | rfl | (simp only [List.length_drop, List.length_take]; rfl)) ?_
                  with_reducible refine (cursor_place_Fault.calls g180 t209 t210 t211 t212 t213 t234 t235 t236 t237 t238 t239 t240 t241 w _ ?side1 ?side2 A19.out).mono ?_
                  (case side1 => repeat (first | (with_reducible first | exact HI180.out | apply IsS35.alloc | apply IsS35.drewN | apply IsS35.drew | apply IsS35.set_0 | apply IsS35.set_1 | apply IsS35.set_2 | apply IsS35.set_3 | apply IsS35.set_4 | refine IsS35.far ?_ NB180_207.out (by repeat (first | exact TypeAt.mk BK207.out | apply TypeAt.set | apply TypeAt.alloc | apply TypeAt.drewN | apply TypeAt.drew)) (by decide) _) | exact HI180.out))
                  (case side2 => repeat (first | (with_reducible first | exact HB.out | apply below_alloc | apply pw_below_drewN | apply below_drew1 | refine below_set ?_ (IsS35.ge HI171.out) | refine below_set ?_ (IsS35.ge HI180.out) | refine below_set ?_ GE207.out) | exact HB.out))
                  rintro e w41 ⟨rfl, hi, hb, hk⟩
                  refine ⟨_, rfl, ?_⟩
                  have n0_ := Aside0.mk (Kd.R_mono (Kd.R_keep (IsS35.apart (show IsS35 w _ g180 t209 t210 t211 t212 t213 from by repeat (first | (with_reducible first | exact HI180.out | apply IsS35.alloc | apply IsS35.drewN | apply IsS35.drew | apply IsS35.set_0 | apply IsS35.set_1 | apply IsS35.set_2 | apply IsS35.set_3 | apply IsS35.set_4 | refine IsS35.far ?_ NB180_207.out (by repeat (first | exact TypeAt.mk BK207.out | apply TypeAt.set | apply TypeAt.alloc | apply TypeAt.drewN | apply TypeAt.drew)) (by decide) _) | exact HI180.out)) (by (with_reducible repeat (first | apply Kd.R_alloc | apply Kd.R_drewN | apply Kd.R_drew)); exact HO165.out) (by decide)) hk (fun _ h => h.2)) (fun _ h => h.1))
                  have n1_ := Aside0.mk ((IsS35.keepS (show IsS35 w _ g171 t229 t230 t231 t232 t233 from by repeat (first | (with_reducible first | exact HI171.out | apply IsS35.alloc | apply IsS35.drewN | apply IsS35.drew | apply IsS35.set_0 | apply IsS35.set_1 | apply IsS35.set_2 | apply IsS35.set_3 | apply IsS35.set_4 | refine IsS35.far ?_ NB171_207.out (by repeat (first | exact TypeAt.mk BK207.out | apply TypeAt.set | apply TypeAt.alloc | apply TypeAt.drewN | apply TypeAt.drew)) (by decide) _) | exact HI171.out)) hk NB171_180.out (IsS35.cells (show IsS35 w _ g180 t209 t210 t211 t212 t213 from by repeat (first | (with_reducible first | exact HI180.out | apply IsS35.alloc | apply IsS35.drewN | apply IsS35.drew | apply IsS35.set_0 | apply IsS35.set_1 | apply IsS35.set_2 | apply IsS35.set_3 | apply IsS35.set_4 | refine IsS35.far ?_ NB180_207.out (by repeat (first | exact TypeAt.mk BK207.out | apply TypeAt.set | apply TypeAt.alloc | apply TypeAt.drewN | apply TypeAt.drew)) (by decide) _) | exact HI180.out)))))
                  have n2_ := Aside0.mk (Kd.R_mono (Kd.R_keep (IsS35.apart (show IsS35 w _ g180 t209 t210 t211 t212 t213 from by repeat (first | (with_reducible first | exact HI180.out | apply IsS35.alloc | apply IsS35.drewN | apply IsS35.drew | apply IsS35.set_0 | apply IsS35.set_1 | apply IsS35.set_2 | apply IsS35.set_3 | apply IsS35.set_4 | refine IsS35.far ?_ NB180_207.out (by repeat (first | exact TypeAt.mk BK207.out | apply TypeAt.set | apply TypeAt.alloc | apply TypeAt.drewN | apply TypeAt.drew)) (by decide) _) | exact HI180.out)) (by (with_reducible repeat (first | apply Kd.R_alloc | apply Kd.R_drewN | apply Kd.R_drew)); exact HO174.out) (by decide)) hk (fun _ h => h.2)) (fun _ h => h.1))
                  have n3_ := Aside0.mk (KeepBut.blk hk (g' := gb207) (o := .cells #[.int .i64 t199, .int .i64 t200, .int .i64 t201] 31 (0, 0)) (by (with_reducible repeat (first | refine blk_drewN ?_ _ | refine blk_drew ?_ | refine blk_alloc ?_ _)); exact BK207.out) NB207_180.out (by simp))
                  have n4_ := Aside0.mk (hb)
                  have n5_ := Aside0.mk (hi)
                  clear HO165
                  clear HI171
                  clear HO174
                  clear BK207
                  clear HB
                  clear HI180
                  have HO165 := n0_
                  have HI171 := n1_
                  have HO174 := n2_
                  have BK207 := n3_
                  have HB := n4_
                  have HI180 := n5_
                  clear n0_ n1_ n2_ n3_ n4_ n5_
                  (try clear hb)
                  (try clear hb2)
                  (try clear hk)
                  (try clear hi)
                  refine hK.out _ _ ⟨(blk_cell BK207.out 0).trans rfl, (blk_cell BK207.out 1).trans rfl, (blk_cell BK207.out 2).trans rfl⟩ (fun hHeld => ?_)
                  clear hK K
                  refine norm_ (a' := ?_) ?_ ?_
                  rotate_left
                  · show Act.put _ (some 71) _ = _
                    simp only [Act.put, List.setIfInBounds_toArray, List.set_cons_zero, List.set_cons_succ, i64_w, i32_w]
                    rfl
                  refine pure_ (i := 43) (N := some 73) (v := ?_) (a' := ?_) #[true, true, true, true, true, true, true, true, true, true, true, true, true, true, true, true, true, true, true, true, true, true, true, true, true, true, true, true, true, true, true, true, true, true, true, true, true, true, true, true, true, true, true, true, false, false] rfl rfl (any_of HT_.out (by kernel_rfl)) (fun _ _ _ h => h) (Or.inl ⟨by rfl, ?_⟩) ?_ ?_
                  rotate_left
                  · intro w'
                    go_simp
                    with_reducible rfl
                  rotate_left
                  · simp only [Act.put, List.setIfInBounds_toArray, List.set_cons_zero, List.set_cons_succ, i64_w, i32_w]
                    rfl
                  refine pure_ (i := 44) (N := some 74) (v := ?_) (a' := ?_) #[true, true, true, true, true, true, true, true, true, true, true, true, true, true, true, true, true, true, true, true, true, true, true, true, true, true, true, true, true, true, true, true, true, true, true, true, true, true, true, true, true, true, true, true, true, false] rfl rfl (any_of HT_.out (by kernel_rfl)) (fun _ _ _ h => h) (Or.inl ⟨by rfl, ?_⟩) ?_ ?_
                  rotate_left
                  · intro w'
                    go_simp
                    with_reducible rfl
                  rotate_left
                  · simp only [Act.put, List.setIfInBounds_toArray, List.set_cons_zero, List.set_cons_succ, i64_w, i32_w]
                    rfl
                  refine pure_ (i := 45) (N := some 0) (v := ?_) (a' := ?_) #[true, true, true, true, true, true, true, true, true, true, true, true, true, true, true, true, true, true, true, true, true, true, true, true, true, true, true, true, true, true, true, true, true, true, true, true, true, true, true, true, true, true, true, true, true, true] rfl rfl (any_of HT_.out (by kernel_rfl)) (fun _ _ _ h => h) (Or.inl ⟨by rfl, ?_⟩) ?_ ?_
                  rotate_left
                  · intro w'
                    go_simp
                    with_reducible rfl
                  rotate_left
                  · simp only [Act.put, List.setIfInBounds_toArray, List.set_cons_zero, List.set_cons_succ, i64_w, i32_w]
                    rfl
                  refine done_ (done_of HT_.out (by kernel_rfl)) ?_
                  try go_wp2
                  go_ret
                  exact ⟨by first | rfl | (simp [errW_none, errW_some] <;> rfl) | (simp [*, errW_none, errW_some] <;> rfl), by repeat (first | (with_reducible first | exact HB.out | apply below_alloc | apply pw_below_drewN | apply below_drew1 | refine below_set ?_ (IsS35.ge HI171.out) | refine below_set ?_ (IsS35.ge HI180.out) | refine below_set ?_ GE207.out) | exact HB.out)⟩
                · rw [if_neg c18] at H
                  exact absurd H (by simp)
              · rw [if_neg c17] at H
                exact absurd H (by simp)
            · rw [if_neg c15] at H
              exact absurd H (by simp)
          · rw [if_neg c13] at H
            exact absurd H (by simp)
        · rw [if_neg c11] at H
          exact absurd H (by simp)
      · rw [if_neg c10] at H
        exact absurd H (by simp)
    · rw [if_neg c9] at H
      exact absurd H (by simp)
  · rw [if_neg c8] at H
    exact absurd H (by simp)

end Go.Proofs.Ytgegbiknohjpgaa.HCursorCuts
