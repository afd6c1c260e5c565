-- Written by the session's program hy.py.
import Derived.Test.YtgegbiknohjpgaaHCursorReadsx0
import Derived.Test.YtgegbiknohjpgaaHCursorReadsx1
import Derived.Test.YtgegbiknohjpgaaHCursorReadsx2
import Derived.Test.YtgegbiknohjpgaaHCursorReadsx3
namespace Go.Proofs.Ytgegbiknohjpgaa.HCursorReads
open Go.RowKit Go.Proofs.YtgegbiknohjpgaaW.PrintWords Go.Proofs.YtgegbiknohjpgaaW.PrintLast Go.Proofs.YtgegbiknohjpgaaW.PrintMore
attribute [local go_sem] max2_int min2_int max_two min_two max_three min_three max_four min_four   -- for this text's walks alone
set_option linter.unusedVariables false
set_option linter.unusedSimpArgs false

attribute [local go_sem high] eqA31
/-! ### decklelaw04_small: function 8 -/
def decklelaw04_small.f (k : Nat)  : Option (Bool) := (cursor_Open.f (([5, 172, 2, 128] : List Int)) 10).bind fun bt166 => ((cursor_Open.f (([9, 9] : List Int)) (-3)).bind fun bt175 => ((cursor_Cursor_Byte.f bt166.1 bt166.2.1 bt166.2.2.1 bt166.2.2.2.1 bt166.2.2.2.2).bind fun bt181 => ((cursor_Cursor_Num.f k bt181.2.1 bt181.2.2.1 bt181.2.2.2.1 bt181.2.2.2.2.1 bt181.2.2.2.2.2 300).bind fun bt187 => ((cursor_Cursor_Num.f k bt187.2.1 bt187.2.2.1 bt187.2.2.2.1 bt187.2.2.2.2.1 bt187.2.2.2.2.2 9).bind fun bt193 => ((cursor_place_Fault.f bt193.2.1 bt193.2.2.1 bt193.2.2.2.1 bt193.2.2.2.2.1 bt193.2.2.2.2.2).bind fun bt199 => ((cursor_Cursor_Num.f k bt175.1 bt175.2.1 bt175.2.2.1 bt175.2.2.2.1 bt175.2.2.2.2 8).bind fun bt208 => (if bt181.1 = 5 then (if bt187.1 = 300 then (if bt193.1 = 0 then (if (bt199.1 == 2 && (bt199.2.1 == 0 && (bt199.2.2.1 == 13))) = true then ((cursor_place_At.f bt199.2.2.2.1 bt199.2.2.2.2.1 bt199.2.2.2.2.2.1 bt199.2.2.2.2.2.2.1 bt199.2.2.2.2.2.2.2).bind fun bt214 => (if bt214.1 = 13 then ((cursor_Cursor_Left.f bt214.2.1 bt214.2.2.1 bt214.2.2.2.1 bt214.2.2.2.2.1 bt214.2.2.2.2.2).bind fun bt220 => (if bt220.1 = 0 then ((cursor_Cursor_End.f bt220.2.1 bt220.2.2.1 bt220.2.2.2.1 bt220.2.2.2.2.1 bt220.2.2.2.2.2).bind fun bt226 => (if (bt226.1 == bt199.1 && (bt226.2.1 == bt199.2.1 && (bt226.2.2.1 == bt199.2.2.1))) = true then (if bt208.1 = 0 then ((cursor_place_Fault.f bt208.2.1 bt208.2.2.1 bt208.2.2.2.1 bt208.2.2.2.2.1 bt208.2.2.2.2.2).bind fun bt234 => (some (bt234.1 == 3 && (bt234.2.1 == 0 && (bt234.2.2.1 == 0))))) else (none)) else (none))) else (none))) else (none))) else (none)) else (none)) else (none)) else (none))))))))
theorem decklelaw04_small.mono : ∀ k, LeO (decklelaw04_small.f k ) (decklelaw04_small.f (k + 1) ) := by
  intro  k
  unfold decklelaw04_small.f
  repeat' first
      | (with_reducible exact cursor_Cursor_Num.mono _ _ _ _ _ _ _)
      | (with_reducible exact LeO.refl _)
      | (with_reducible exact LeO.none _)
      | (with_reducible refine LeO.ite ?_ ?_)
      | (with_reducible refine LeO.bind ?_ (fun _ => ?_))
      | exact cursor_Cursor_Num.mono _ _ _ _ _ _ _
      | exact LeO.none _
      | refine LeO.ite ?_ ?_
      | refine LeO.bind ?_ (fun _ => ?_)
def decklelaw04_small.T10 : Bool × List (List Nat × List Nat) := (true, [([], []), ([0], [0]), ([1], [1]), ([2], [2]), ([3, 2], [2, 3]), ([2, 4], [2, 4]), ([5, 2], [5]), ([6], [6]), ([7, 6], [6, 7]), ([6, 8], [6, 8]), ([9, 6], [9]), ([10], [10]), ([10], [10]), ([11, 12, 10], [10, 11, 12]), ([10, 13], [10, 13]), ([14, 10], [14]), ([15], [15]), ([16, 15], [15, 16]), ([17, 15], [15, 17]), ([18, 15, 15], [15, 18]), ([19, 15], [15, 19]), ([15, 20], [15, 20]), ([21, 19], [21]), ([22], [22]), ([23, 22, 22], [22, 23]), ([24, 22], [22, 24]), ([22, 25], [22, 25]), ([26, 24], [26]), ([27], [27]), ([28, 27, 27], [27, 28]), ([27], [27]), ([29, 30, 27], [27, 29, 30]), ([27, 31], [27, 31]), ([32, 29], [32]), ([33], [33]), ([34, 33], [33, 34]), ([33, 35], [33, 35]), ([36, 33], [36]), ([37], [37]), ([38, 37], [37, 38]), ([39, 37], [37, 39]), ([40, 37, 37], [37, 40]), ([37], [37]), ([41, 42, 37], [37, 41, 42]), ([37, 43], [37, 43]), ([44, 41, 0, 1, 2, 3, 4, 5, 6, 7, 8, 9, 10, 11, 12, 13, 14, 15, 16, 17, 18, 19, 20, 21, 22, 23, 24, 25, 26, 27, 28, 29, 30, 31, 32, 33, 34, 35, 36, 37, 38, 39, 40, 41, 42, 43, 44], [44])])
def decklelaw04_small.B10 : List Nat := [0, 1, 3, 7, 15, 31, 63, 127, 255, 511, 1023, 2047, 2047, 8191, 16383, 32767, 65535, 131071, 262143, 524287, 1048575, 2097151, 4194303, 8388607, 16777215, 33554431, 67108863, 134217727, 268435455, 536870911, 268435455, 2147483647, 4294967295, 8589934591, 17179869183, 34359738367, 68719476735, 137438953471, 274877906943, 549755813887, 1099511627775, 2199023255551, 274877906943, 8796093022207, 17592186044415, 35184372088831]
theorem decklelaw04_small.tab10 : rtab .any (opsOf Try.f8 10) = decklelaw04_small.T10 := by kernel_rfl
theorem decklelaw04_small.bits10 : waitsOk decklelaw04_small.T10.2 decklelaw04_small.B10 = true := by kernel_rfl
set_option maxHeartbeats 8000000 in
set_option maxRecDepth 100000 in
theorem decklelaw04_small.calls (k : Nat)  (r : Bool) (w : World) (h : decklelaw04_small.f k  = some r) :
    Calls Try.prog 8 #[] w fun e w' => e = .returned (.bool r) ∧ Below w.heap.size w w' := by
  have hu31 := Try.underlying31
  have HB := Aside0.mk (Below.refl w.heap.size w)
  have H : ((cursor_Open.f (([5, 172, 2, 128] : List Int)) 10).bind fun bt166 => ((cursor_Open.f (([9, 9] : List Int)) (-3)).bind fun bt175 => ((cursor_Cursor_Byte.f bt166.1 bt166.2.1 bt166.2.2.1 bt166.2.2.2.1 bt166.2.2.2.2).bind fun bt181 => ((cursor_Cursor_Num.f k bt181.2.1 bt181.2.2.1 bt181.2.2.2.1 bt181.2.2.2.2.1 bt181.2.2.2.2.2 300).bind fun bt187 => ((cursor_Cursor_Num.f k bt187.2.1 bt187.2.2.1 bt187.2.2.2.1 bt187.2.2.2.2.1 bt187.2.2.2.2.2 9).bind fun bt193 => ((cursor_place_Fault.f bt193.2.1 bt193.2.2.1 bt193.2.2.2.1 bt193.2.2.2.2.1 bt193.2.2.2.2.2).bind fun bt199 => ((cursor_Cursor_Num.f k bt175.1 bt175.2.1 bt175.2.2.1 bt175.2.2.2.1 bt175.2.2.2.2 8).bind fun bt208 => (if bt181.1 = 5 then (if bt187.1 = 300 then (if bt193.1 = 0 then (if (bt199.1 == 2 && (bt199.2.1 == 0 && (bt199.2.2.1 == 13))) = true then ((cursor_place_At.f bt199.2.2.2.1 bt199.2.2.2.2.1 bt199.2.2.2.2.2.1 bt199.2.2.2.2.2.2.1 bt199.2.2.2.2.2.2.2).bind fun bt214 => (if bt214.1 = 13 then ((cursor_Cursor_Left.f bt214.2.1 bt214.2.2.1 bt214.2.2.2.1 bt214.2.2.2.2.1 bt214.2.2.2.2.2).bind fun bt220 => (if bt220.1 = 0 then ((cursor_Cursor_End.f bt220.2.1 bt220.2.2.1 bt220.2.2.2.1 bt220.2.2.2.2.1 bt220.2.2.2.2.2).bind fun bt226 => (if (bt226.1 == bt199.1 && (bt226.2.1 == bt199.2.1 && (bt226.2.2.1 == bt199.2.2.1))) = true then (if bt208.1 = 0 then ((cursor_place_Fault.f bt208.2.1 bt208.2.2.1 bt208.2.2.2.1 bt208.2.2.2.2.1 bt208.2.2.2.2.2).bind fun bt234 => (some (bt234.1 == 3 && (bt234.2.1 == 0 && (bt234.2.2.1 == 0))))) else (none)) else (none))) else (none))) else (none))) else (none)) else (none)) else (none)) else (none))))))))) = some r := h
  clear h
  obtain ⟨y163, hy163⟩ : ∃ y_ : List Int, y_ = (([5, 172, 2, 128] : List Int)) := ⟨_, rfl⟩
  replace H : ((cursor_Open.f y163 10).bind fun bt166 => ((cursor_Open.f (([9, 9] : List Int)) (-3)).bind fun bt175 => ((cursor_Cursor_Byte.f bt166.1 bt166.2.1 bt166.2.2.1 bt166.2.2.2.1 bt166.2.2.2.2).bind fun bt181 => ((cursor_Cursor_Num.f k bt181.2.1 bt181.2.2.1 bt181.2.2.2.1 bt181.2.2.2.2.1 bt181.2.2.2.2.2 300).bind fun bt187 => ((cursor_Cursor_Num.f k bt187.2.1 bt187.2.2.1 bt187.2.2.2.1 bt187.2.2.2.2.1 bt187.2.2.2.2.2 9).bind fun bt193 => ((cursor_place_Fault.f bt193.2.1 bt193.2.2.1 bt193.2.2.2.1 bt193.2.2.2.2.1 bt193.2.2.2.2.2).bind fun bt199 => ((cursor_Cursor_Num.f k bt175.1 bt175.2.1 bt175.2.2.1 bt175.2.2.2.1 bt175.2.2.2.2 8).bind fun bt208 => (if bt181.1 = 5 then (if bt187.1 = 300 then (if bt193.1 = 0 then (if (bt199.1 == 2 && (bt199.2.1 == 0 && (bt199.2.2.1 == 13))) = true then ((cursor_place_At.f bt199.2.2.2.1 bt199.2.2.2.2.1 bt199.2.2.2.2.2.1 bt199.2.2.2.2.2.2.1 bt199.2.2.2.2.2.2.2).bind fun bt214 => (if bt214.1 = 13 then ((cursor_Cursor_Left.f bt214.2.1 bt214.2.2.1 bt214.2.2.2.1 bt214.2.2.2.2.1 bt214.2.2.2.2.2).bind fun bt220 => (if bt220.1 = 0 then ((cursor_Cursor_End.f bt220.2.1 bt220.2.2.1 bt220.2.2.2.1 bt220.2.2.2.2.1 bt220.2.2.2.2.2).bind fun bt226 => (if (bt226.1 == bt199.1 && (bt226.2.1 == bt199.2.1 && (bt226.2.2.1 == bt199.2.2.1))) = true then (if bt208.1 = 0 then ((cursor_place_Fault.f bt208.2.1 bt208.2.2.1 bt208.2.2.2.1 bt208.2.2.2.2.1 bt208.2.2.2.2.2).bind fun bt234 => (some (bt234.1 == 3 && (bt234.2.1 == 0 && (bt234.2.2.1 == 0))))) else (none)) else (none))) else (none))) else (none))) else (none)) else (none)) else (none)) else (none))))))))) = some r := by first | (rw [hy163]; with_reducible exact H) | (have H2_ := (Option.bind_some _ _).symm.trans H; rw [hy163]; with_reducible exact H2_) | (have H2_ := (Option.bind_some _ _).symm.trans H; with_reducible exact H2_) | with_reducible exact H | (rw [hy163]; exact H) | exact H
  have Ny163 := Aside0.mk hy163
  clear hy163
  replace H := Option.bind_eq_some_iff.mp H
  obtain ⟨⟨t166, t167, t168, t169, t170⟩, A10, H⟩ := H
  replace H : ((cursor_Open.f (([9, 9] : List Int)) (-3)).bind fun bt175 => ((cursor_Cursor_Byte.f t166 t167 t168 t169 t170).bind fun bt181 => ((cursor_Cursor_Num.f k bt181.2.1 bt181.2.2.1 bt181.2.2.2.1 bt181.2.2.2.2.1 bt181.2.2.2.2.2 300).bind fun bt187 => ((cursor_Cursor_Num.f k bt187.2.1 bt187.2.2.1 bt187.2.2.2.1 bt187.2.2.2.2.1 bt187.2.2.2.2.2 9).bind fun bt193 => ((cursor_place_Fault.f bt193.2.1 bt193.2.2.1 bt193.2.2.2.1 bt193.2.2.2.2.1 bt193.2.2.2.2.2).bind fun bt199 => ((cursor_Cursor_Num.f k bt175.1 bt175.2.1 bt175.2.2.1 bt175.2.2.2.1 bt175.2.2.2.2 8).bind fun bt208 => (if bt181.1 = 5 then (if bt187.1 = 300 then (if bt193.1 = 0 then (if (bt199.1 == 2 && (bt199.2.1 == 0 && (bt199.2.2.1 == 13))) = true then ((cursor_place_At.f bt199.2.2.2.1 bt199.2.2.2.2.1 bt199.2.2.2.2.2.1 bt199.2.2.2.2.2.2.1 bt199.2.2.2.2.2.2.2).bind fun bt214 => (if bt214.1 = 13 then ((cursor_Cursor_Left.f bt214.2.1 bt214.2.2.1 bt214.2.2.2.1 bt214.2.2.2.2.1 bt214.2.2.2.2.2).bind fun bt220 => (if bt220.1 = 0 then ((cursor_Cursor_End.f bt220.2.1 bt220.2.2.1 bt220.2.2.2.1 bt220.2.2.2.2.1 bt220.2.2.2.2.2).bind fun bt226 => (if (bt226.1 == bt199.1 && (bt226.2.1 == bt199.2.1 && (bt226.2.2.1 == bt199.2.2.1))) = true then (if bt208.1 = 0 then ((cursor_place_Fault.f bt208.2.1 bt208.2.2.1 bt208.2.2.2.1 bt208.2.2.2.2.1 bt208.2.2.2.2.2).bind fun bt234 => (some (bt234.1 == 3 && (bt234.2.1 == 0 && (bt234.2.2.1 == 0))))) else (none)) else (none))) else (none))) else (none))) else (none)) else (none)) else (none)) else (none)))))))) = some r := H
  have A1 := Aside0.mk A10
  clear A10
  obtain ⟨y172, hy172⟩ : ∃ y_ : List Int, y_ = (([9, 9] : List Int)) := ⟨_, rfl⟩
  replace H : ((cursor_Open.f y172 (-3)).bind fun bt175 => ((cursor_Cursor_Byte.f t166 t167 t168 t169 t170).bind fun bt181 => ((cursor_Cursor_Num.f k bt181.2.1 bt181.2.2.1 bt181.2.2.2.1 bt181.2.2.2.2.1 bt181.2.2.2.2.2 300).bind fun bt187 => ((cursor_Cursor_Num.f k bt187.2.1 bt187.2.2.1 bt187.2.2.2.1 bt187.2.2.2.2.1 bt187.2.2.2.2.2 9).bind fun bt193 => ((cursor_place_Fault.f bt193.2.1 bt193.2.2.1 bt193.2.2.2.1 bt193.2.2.2.2.1 bt193.2.2.2.2.2).bind fun bt199 => ((cursor_Cursor_Num.f k bt175.1 bt175.2.1 bt175.2.2.1 bt175.2.2.2.1 bt175.2.2.2.2 8).bind fun bt208 => (if bt181.1 = 5 then (if bt187.1 = 300 then (if bt193.1 = 0 then (if (bt199.1 == 2 && (bt199.2.1 == 0 && (bt199.2.2.1 == 13))) = true then ((cursor_place_At.f bt199.2.2.2.1 bt199.2.2.2.2.1 bt199.2.2.2.2.2.1 bt199.2.2.2.2.2.2.1 bt199.2.2.2.2.2.2.2).bind fun bt214 => (if bt214.1 = 13 then ((cursor_Cursor_Left.f bt214.2.1 bt214.2.2.1 bt214.2.2.2.1 bt214.2.2.2.2.1 bt214.2.2.2.2.2).bind fun bt220 => (if bt220.1 = 0 then ((cursor_Cursor_End.f bt220.2.1 bt220.2.2.1 bt220.2.2.2.1 bt220.2.2.2.2.1 bt220.2.2.2.2.2).bind fun bt226 => (if (bt226.1 == bt199.1 && (bt226.2.1 == bt199.2.1 && (bt226.2.2.1 == bt199.2.2.1))) = true then (if bt208.1 = 0 then ((cursor_place_Fault.f bt208.2.1 bt208.2.2.1 bt208.2.2.2.1 bt208.2.2.2.2.1 bt208.2.2.2.2.2).bind fun bt234 => (some (bt234.1 == 3 && (bt234.2.1 == 0 && (bt234.2.2.1 == 0))))) else (none)) else (none))) else (none))) else (none))) else (none)) else (none)) else (none)) else (none)))))))) = some r := by first | (rw [hy172]; with_reducible exact H) | (have H2_ := (Option.bind_some _ _).symm.trans H; rw [hy172]; with_reducible exact H2_) | (have H2_ := (Option.bind_some _ _).symm.trans H; with_reducible exact H2_) | with_reducible exact H | (rw [hy172]; exact H) | exact H
  have Ny172 := Aside0.mk hy172
  clear hy172
  replace H := Option.bind_eq_some_iff.mp H
  obtain ⟨⟨t175, t176, t177, t178, t179⟩, A20, H⟩ := H
  replace H : ((cursor_Cursor_Byte.f t166 t167 t168 t169 t170).bind fun bt181 => ((cursor_Cursor_Num.f k bt181.2.1 bt181.2.2.1 bt181.2.2.2.1 bt181.2.2.2.2.1 bt181.2.2.2.2.2 300).bind fun bt187 => ((cursor_Cursor_Num.f k bt187.2.1 bt187.2.2.1 bt187.2.2.2.1 bt187.2.2.2.2.1 bt187.2.2.2.2.2 9).bind fun bt193 => ((cursor_place_Fault.f bt193.2.1 bt193.2.2.1 bt193.2.2.2.1 bt193.2.2.2.2.1 bt193.2.2.2.2.2).bind fun bt199 => ((cursor_Cursor_Num.f k t175 t176 t177 t178 t179 8).bind fun bt208 => (if bt181.1 = 5 then (if bt187.1 = 300 then (if bt193.1 = 0 then (if (bt199.1 == 2 && (bt199.2.1 == 0 && (bt199.2.2.1 == 13))) = true then ((cursor_place_At.f bt199.2.2.2.1 bt199.2.2.2.2.1 bt199.2.2.2.2.2.1 bt199.2.2.2.2.2.2.1 bt199.2.2.2.2.2.2.2).bind fun bt214 => (if bt214.1 = 13 then ((cursor_Cursor_Left.f bt214.2.1 bt214.2.2.1 bt214.2.2.2.1 bt214.2.2.2.2.1 bt214.2.2.2.2.2).bind fun bt220 => (if bt220.1 = 0 then ((cursor_Cursor_End.f bt220.2.1 bt220.2.2.1 bt220.2.2.2.1 bt220.2.2.2.2.1 bt220.2.2.2.2.2).bind fun bt226 => (if (bt226.1 == bt199.1 && (bt226.2.1 == bt199.2.1 && (bt226.2.2.1 == bt199.2.2.1))) = true then (if bt208.1 = 0 then ((cursor_place_Fault.f bt208.2.1 bt208.2.2.1 bt208.2.2.2.1 bt208.2.2.2.2.1 bt208.2.2.2.2.2).bind fun bt234 => (some (bt234.1 == 3 && (bt234.2.1 == 0 && (bt234.2.2.1 == 0))))) else (none)) else (none))) else (none))) else (none))) else (none)) else (none)) else (none)) else (none))))))) = some r := H
  have A2 := Aside0.mk A20
  clear A20
  replace H := Option.bind_eq_some_iff.mp H
  obtain ⟨⟨t181, t182, t183, t184, t185, t186⟩, A30, H⟩ := H
  replace H : ((cursor_Cursor_Num.f k t182 t183 t184 t185 t186 300).bind fun bt187 => ((cursor_Cursor_Num.f k bt187.2.1 bt187.2.2.1 bt187.2.2.2.1 bt187.2.2.2.2.1 bt187.2.2.2.2.2 9).bind fun bt193 => ((cursor_place_Fault.f bt193.2.1 bt193.2.2.1 bt193.2.2.2.1 bt193.2.2.2.2.1 bt193.2.2.2.2.2).bind fun bt199 => ((cursor_Cursor_Num.f k t175 t176 t177 t178 t179 8).bind fun bt208 => (if t181 = 5 then (if bt187.1 = 300 then (if bt193.1 = 0 then (if (bt199.1 == 2 && (bt199.2.1 == 0 && (bt199.2.2.1 == 13))) = true then ((cursor_place_At.f bt199.2.2.2.1 bt199.2.2.2.2.1 bt199.2.2.2.2.2.1 bt199.2.2.2.2.2.2.1 bt199.2.2.2.2.2.2.2).bind fun bt214 => (if bt214.1 = 13 then ((cursor_Cursor_Left.f bt214.2.1 bt214.2.2.1 bt214.2.2.2.1 bt214.2.2.2.2.1 bt214.2.2.2.2.2).bind fun bt220 => (if bt220.1 = 0 then ((cursor_Cursor_End.f bt220.2.1 bt220.2.2.1 bt220.2.2.2.1 bt220.2.2.2.2.1 bt220.2.2.2.2.2).bind fun bt226 => (if (bt226.1 == bt199.1 && (bt226.2.1 == bt199.2.1 && (bt226.2.2.1 == bt199.2.2.1))) = true then (if bt208.1 = 0 then ((cursor_place_Fault.f bt208.2.1 bt208.2.2.1 bt208.2.2.2.1 bt208.2.2.2.2.1 bt208.2.2.2.2.2).bind fun bt234 => (some (bt234.1 == 3 && (bt234.2.1 == 0 && (bt234.2.2.1 == 0))))) else (none)) else (none))) else (none))) else (none))) else (none)) else (none)) else (none)) else (none)))))) = some r := H
  have A3 := Aside0.mk A30
  clear A30
  replace H := Option.bind_eq_some_iff.mp H
  obtain ⟨⟨t187, t188, t189, t190, t191, t192⟩, A40, H⟩ := H
  replace H : ((cursor_Cursor_Num.f k t188 t189 t190 t191 t192 9).bind fun bt193 => ((cursor_place_Fault.f bt193.2.1 bt193.2.2.1 bt193.2.2.2.1 bt193.2.2.2.2.1 bt193.2.2.2.2.2).bind fun bt199 => ((cursor_Cursor_Num.f k t175 t176 t177 t178 t179 8).bind fun bt208 => (if t181 = 5 then (if t187 = 300 then (if bt193.1 = 0 then (if (bt199.1 == 2 && (bt199.2.1 == 0 && (bt199.2.2.1 == 13))) = true then ((cursor_place_At.f bt199.2.2.2.1 bt199.2.2.2.2.1 bt199.2.2.2.2.2.1 bt199.2.2.2.2.2.2.1 bt199.2.2.2.2.2.2.2).bind fun bt214 => (if bt214.1 = 13 then ((cursor_Cursor_Left.f bt214.2.1 bt214.2.2.1 bt214.2.2.2.1 bt214.2.2.2.2.1 bt214.2.2.2.2.2).bind fun bt220 => (if bt220.1 = 0 then ((cursor_Cursor_End.f bt220.2.1 bt220.2.2.1 bt220.2.2.2.1 bt220.2.2.2.2.1 bt220.2.2.2.2.2).bind fun bt226 => (if (bt226.1 == bt199.1 && (bt226.2.1 == bt199.2.1 && (bt226.2.2.1 == bt199.2.2.1))) = true then (if bt208.1 = 0 then ((cursor_place_Fault.f bt208.2.1 bt208.2.2.1 bt208.2.2.2.1 bt208.2.2.2.2.1 bt208.2.2.2.2.2).bind fun bt234 => (some (bt234.1 == 3 && (bt234.2.1 == 0 && (bt234.2.2.1 == 0))))) else (none)) else (none))) else (none))) else (none))) else (none)) else (none)) else (none)) else (none))))) = some r := H
  have A4 := Aside0.mk A40
  clear A40
  replace H := Option.bind_eq_some_iff.mp H
  obtain ⟨⟨t193, t194, t195, t196, t197, t198⟩, A50, H⟩ := H
  replace H : ((cursor_place_Fault.f t194 t195 t196 t197 t198).bind fun bt199 => ((cursor_Cursor_Num.f k t175 t176 t177 t178 t179 8).bind fun bt208 => (if t181 = 5 then (if t187 = 300 then (if t193 = 0 then (if (bt199.1 == 2 && (bt199.2.1 == 0 && (bt199.2.2.1 == 13))) = true then ((cursor_place_At.f bt199.2.2.2.1 bt199.2.2.2.2.1 bt199.2.2.2.2.2.1 bt199.2.2.2.2.2.2.1 bt199.2.2.2.2.2.2.2).bind fun bt214 => (if bt214.1 = 13 then ((cursor_Cursor_Left.f bt214.2.1 bt214.2.2.1 bt214.2.2.2.1 bt214.2.2.2.2.1 bt214.2.2.2.2.2).bind fun bt220 => (if bt220.1 = 0 then ((cursor_Cursor_End.f bt220.2.1 bt220.2.2.1 bt220.2.2.2.1 bt220.2.2.2.2.1 bt220.2.2.2.2.2).bind fun bt226 => (if (bt226.1 == bt199.1 && (bt226.2.1 == bt199.2.1 && (bt226.2.2.1 == bt199.2.2.1))) = true then (if bt208.1 = 0 then ((cursor_place_Fault.f bt208.2.1 bt208.2.2.1 bt208.2.2.2.1 bt208.2.2.2.2.1 bt208.2.2.2.2.2).bind fun bt234 => (some (bt234.1 == 3 && (bt234.2.1 == 0 && (bt234.2.2.1 == 0))))) else (none)) else (none))) else (none))) else (none))) else (none)) else (none)) else (none)) else (none)))) = some r := H
  have A5 := Aside0.mk A50
  clear A50
  replace H := Option.bind_eq_some_iff.mp H
  obtain ⟨⟨t199, t200, t201, t202, t203, t204, t205, t206⟩, A60, H⟩ := H
  replace H : ((cursor_Cursor_Num.f k t175 t176 t177 t178 t179 8).bind fun bt208 => (if t181 = 5 then (if t187 = 300 then (if t193 = 0 then (if (t199 == 2 && (t200 == 0 && (t201 == 13))) = true then ((cursor_place_At.f t202 t203 t204 t205 t206).bind fun bt214 => (if bt214.1 = 13 then ((cursor_Cursor_Left.f bt214.2.1 bt214.2.2.1 bt214.2.2.2.1 bt214.2.2.2.2.1 bt214.2.2.2.2.2).bind fun bt220 => (if bt220.1 = 0 then ((cursor_Cursor_End.f bt220.2.1 bt220.2.2.1 bt220.2.2.2.1 bt220.2.2.2.2.1 bt220.2.2.2.2.2).bind fun bt226 => (if (bt226.1 == t199 && (bt226.2.1 == t200 && (bt226.2.2.1 == t201))) = true then (if bt208.1 = 0 then ((cursor_place_Fault.f bt208.2.1 bt208.2.2.1 bt208.2.2.2.1 bt208.2.2.2.2.1 bt208.2.2.2.2.2).bind fun bt234 => (some (bt234.1 == 3 && (bt234.2.1 == 0 && (bt234.2.2.1 == 0))))) else (none)) else (none))) else (none))) else (none))) else (none)) else (none)) else (none)) else (none))) = some r := H
  have A6 := Aside0.mk A60
  clear A60
  replace H := Option.bind_eq_some_iff.mp H
  obtain ⟨⟨t208, t209, t210, t211, t212, t213⟩, A70, H⟩ := H
  replace H : (if t181 = 5 then (if t187 = 300 then (if t193 = 0 then (if (t199 == 2 && (t200 == 0 && (t201 == 13))) = true then ((cursor_place_At.f t202 t203 t204 t205 t206).bind fun bt214 => (if bt214.1 = 13 then ((cursor_Cursor_Left.f bt214.2.1 bt214.2.2.1 bt214.2.2.2.1 bt214.2.2.2.2.1 bt214.2.2.2.2.2).bind fun bt220 => (if bt220.1 = 0 then ((cursor_Cursor_End.f bt220.2.1 bt220.2.2.1 bt220.2.2.2.1 bt220.2.2.2.2.1 bt220.2.2.2.2.2).bind fun bt226 => (if (bt226.1 == t199 && (bt226.2.1 == t200 && (bt226.2.2.1 == t201))) = true then (if t208 = 0 then ((cursor_place_Fault.f t209 t210 t211 t212 t213).bind fun bt234 => (some (bt234.1 == 3 && (bt234.2.1 == 0 && (bt234.2.2.1 == 0))))) else (none)) else (none))) else (none))) else (none))) else (none)) else (none)) else (none)) else (none)) = some r := H
  have A7 := Aside0.mk A70
  clear A70
  by_cases c8 : t181 = 5
  · rw [if_pos c8] at H
    have c8b0 : (t181 == 5) = true := beq_iff_eq.mpr c8
    have c8b1 : (t181 != 5) = false := bne_eq_false_iff_eq.mpr c8
    clear c8
    by_cases c9 : t187 = 300
    · rw [if_pos c9] at H
      have c9b0 : (t187 == 300) = true := beq_iff_eq.mpr c9
      have c9b1 : (t187 != 300) = false := bne_eq_false_iff_eq.mpr c9
      clear c9
      by_cases c10 : t193 = 0
      · rw [if_pos c10] at H
        have c10b0 : (t193 == 0) = true := beq_iff_eq.mpr c10
        have c10b1 : (t193 != 0) = false := bne_eq_false_iff_eq.mpr c10
        clear c10
        by_cases c11 : (t199 == 2 && (t200 == 0 && (t201 == 13))) = true
        · rw [if_pos c11] at H
          have c11b0 : (t199 == 2 && (t200 == 0 && (t201 == 13))) = true := c11
          (try (have c11b1 : decide (t199 = 2 && (t200 == 0 && (t201 == 13))) = true := by simpa using c11))
          (try (have c11b2 : (t199 == 2 && (t200 == 0 && (t201 == 13))) = true := by simpa using c11))
          clear c11
          replace H := Option.bind_eq_some_iff.mp H
          obtain ⟨⟨t214, t215, t216, t217, t218, t219⟩, A120, H⟩ := H
          replace H : (if t214 = 13 then ((cursor_Cursor_Left.f t215 t216 t217 t218 t219).bind fun bt220 => (if bt220.1 = 0 then ((cursor_Cursor_End.f bt220.2.1 bt220.2.2.1 bt220.2.2.2.1 bt220.2.2.2.2.1 bt220.2.2.2.2.2).bind fun bt226 => (if (bt226.1 == t199 && (bt226.2.1 == t200 && (bt226.2.2.1 == t201))) = true then (if t208 = 0 then ((cursor_place_Fault.f t209 t210 t211 t212 t213).bind fun bt234 => (some (bt234.1 == 3 && (bt234.2.1 == 0 && (bt234.2.2.1 == 0))))) else (none)) else (none))) else (none))) else (none)) = some r := H
          have A12 := Aside0.mk A120
          clear A120
          by_cases c13 : t214 = 13
          · rw [if_pos c13] at H
            have c13b0 : (t214 == 13) = true := beq_iff_eq.mpr c13
            have c13b1 : (t214 != 13) = false := bne_eq_false_iff_eq.mpr c13
            clear c13
            replace H := Option.bind_eq_some_iff.mp H
            obtain ⟨⟨t220, t221, t222, t223, t224, t225⟩, A140, H⟩ := H
            replace H : (if t220 = 0 then ((cursor_Cursor_End.f t221 t222 t223 t224 t225).bind fun bt226 => (if (bt226.1 == t199 && (bt226.2.1 == t200 && (bt226.2.2.1 == t201))) = true then (if t208 = 0 then ((cursor_place_Fault.f t209 t210 t211 t212 t213).bind fun bt234 => (some (bt234.1 == 3 && (bt234.2.1 == 0 && (bt234.2.2.1 == 0))))) else (none)) else (none))) else (none)) = some r := H
            have A14 := Aside0.mk A140
            clear A140
            by_cases c15 : t220 = 0
            · rw [if_pos c15] at H
              have c15b0 : (t220 == 0) = true := beq_iff_eq.mpr c15
              have c15b1 : (t220 != 0) = false := bne_eq_false_iff_eq.mpr c15
              clear c15
              replace H := Option.bind_eq_some_iff.mp H
              obtain ⟨⟨t226, t227, t228, t229, t230, t231, t232, t233⟩, A160, H⟩ := H
              replace H : (if (t226 == t199 && (t227 == t200 && (t228 == t201))) = true then (if t208 = 0 then ((cursor_place_Fault.f t209 t210 t211 t212 t213).bind fun bt234 => (some (bt234.1 == 3 && (bt234.2.1 == 0 && (bt234.2.2.1 == 0))))) else (none)) else (none)) = some r := H
              have A16 := Aside0.mk A160
              clear A160
              by_cases c17 : (t226 == t199 && (t227 == t200 && (t228 == t201))) = true
              · rw [if_pos c17] at H
                have c17b0 : (t226 == t199 && (t227 == t200 && (t228 == t201))) = true := c17
                (try (have c17b1 : decide (t226 = t199 && (t227 == t200 && (t228 == t201))) = true := by simpa using c17))
                (try (have c17b2 : (t226 == t199 && (t227 == t200 && (t228 == t201))) = true := by simpa using c17))
                clear c17
                by_cases c18 : t208 = 0
                · rw [if_pos c18] at H
                  have c18b0 : (t208 == 0) = true := beq_iff_eq.mpr c18
                  have c18b1 : (t208 != 0) = false := bne_eq_false_iff_eq.mpr c18
                  clear c18
                  replace H := Option.bind_eq_some_iff.mp H
                  obtain ⟨⟨t234, t235, t236, t237, t238, t239, t240, t241⟩, A190, H⟩ := H
                  replace H : (some (t234 == 3 && (t235 == 0 && (t236 == 0)))) = some r := H
                  have A19 := Aside0.mk A190
                  clear A190
                  obtain rfl := Option.some.inj H
                  go_enter Try.func8, Try.ntmps8
                  try go_wp2_with (first | ((with_reducible refine gate_dst (N := 8) rfl ?_); refine Kd.R_lit (Kd.int .u8) _ 5 ?hg (N := 8) ?hd (xs := ([5, 172, 2, 128] : List Int)) (inner := [.int .u8 5, .int .u8 172, .int .u8 2, .int .u8 128]) (ok := fun _ => True) (okp := fun _ => True) ?hr ?hp (fun _ hk => hk) trivial (Below.refl _ _) (Nat.le_refl _) (by simp) ?_; (case hd => rfl); (case hg => rfl); (case hr => first | (go_simp; done) | (go_simp; rfl)); (case hp => exact (Reps.one (show Kd.M (Kd.int .u8) _ _ _ 5 [.int .u8 5] from rfl) (Reps.one (show Kd.M (Kd.int .u8) _ _ _ 172 [.int .u8 172] from rfl) (Reps.one (show Kd.M (Kd.int .u8) _ _ _ 2 [.int .u8 2] from rfl) (Reps.one (show Kd.M (Kd.int .u8) _ _ _ 128 [.int .u8 128] from rfl) (Reps.none _ _)))))); intro v164 w20 ho21 hb hg_ hnew_; clear hg_ hnew_; (first | rw [← Ny163.out] at ho21 | (simp only [Int.reduceToNat] at ho21; rw [← Ny163.out] at ho21)); have n0_ := Aside0.mk (Kd.R_lower ho21 (below_size (by repeat (first | (with_reducible first | exact HB.out | apply below_alloc | apply pw_below_drewN | apply below_drew1) | exact HB.out)))); have n1_ := Aside0.mk (below_step (by repeat (first | (with_reducible first | exact HB.out | apply below_alloc | apply pw_below_drewN | apply below_drew1) | exact HB.out)) hb); clear HB; have HO165 := n0_; have HB := n1_; clear n0_ n1_; clear hb ho21; obtain ⟨Ao22, co22, eo22⟩ := Kd.R_slice HO165.out; subst eo22) | ((with_reducible refine gate_callee (f := 9) rfl ?_); refine goesL_ (some 9) rfl rfl Try.func9 (by kernel_rfl) rfl #[.slice Ao22 y163.length co22, .int .i64 10] rfl (by (try simp only [List.map_toArray, List.map_cons, List.map_nil]); first | done | rfl | (simp only [List.length_drop, List.length_take]; rfl)) ?_; (with_reducible refine (cursor_Open.calls _ _ y163 10 t166 t167 t168 t169 t170 w _ ?side1 ?side2 ?side3 A1.out).mono ?_); (case side1 => repeat (first | (with_reducible first | exact HB.out | apply below_alloc | apply pw_below_drewN | apply below_drew1) | exact HB.out)); (case side2 => repeat (first | exact (Kd.R_reads' HO165.out).2.2 | (with_reducible refine Kd.C_alloc ?_ _) | (with_reducible refine Kd.C_drewN ?_ _) | (with_reducible refine Kd.C_drew ?_))); (case side3 => exact (Kd.R_reads' HO165.out).2.1); rintro e w23 ⟨g171, rfl, hi, hb, hb2⟩; refine ⟨_, rfl, ?_⟩; have n0_ := Aside0.mk (Kd.R_below (by (with_reducible repeat (first | apply Kd.R_alloc | apply Kd.R_drewN | apply Kd.R_drew)); exact HO165.out) hb2); have n1_ := Aside0.mk (hb); have n2_ := Aside0.mk (hi); clear HO165; clear HB; have HO165 := n0_; have HB := n1_; have HI171 := n2_; clear n0_ n1_ n2_; (try clear hb); (try clear hb2); (try clear hk); (try clear hi)) | ((with_reducible refine gate_dst (N := 10) rfl ?_); refine Kd.R_lit (Kd.int .u8) _ 5 ?hg (N := 10) ?hd (xs := ([9, 9] : List Int)) (inner := [.int .u8 9, .int .u8 9]) (ok := fun _ => True) (okp := fun _ => True) ?hr ?hp (fun _ hk => hk) trivial (Below.refl _ _) (Nat.le_refl _) (by simp) ?_; (case hd => rfl); (case hg => rfl); (case hr => first | (go_simp; done) | (go_simp; rfl)); (case hp => exact (Reps.one (show Kd.M (Kd.int .u8) _ _ _ 9 [.int .u8 9] from rfl) (Reps.one (show Kd.M (Kd.int .u8) _ _ _ 9 [.int .u8 9] from rfl) (Reps.none _ _)))); intro v173 w24 ho25 hb hg_ hnew_; clear hg_ hnew_; (first | rw [← Ny172.out] at ho25 | (simp only [Int.reduceToNat] at ho25; rw [← Ny172.out] at ho25)); have n0_ := Aside0.mk (Kd.R_elder' (by (with_reducible repeat (first | apply Kd.R_alloc | apply Kd.R_drewN | apply Kd.R_drew)); exact HO165.out) (Kd.R_base ho25) hb); have n1_ := Aside0.mk (Kd.R_lower (Kd.R_new' ho25 (Kd.R_lt (by (with_reducible repeat (first | apply Kd.R_alloc | apply Kd.R_drewN | apply Kd.R_drew)); exact HO165.out))) (below_size (by repeat (first | (with_reducible first | exact HB.out | apply below_alloc | apply pw_below_drewN | apply below_drew1 | refine below_set ?_ (IsS35.ge HI171.out)) | exact HB.out)))); have n2_ := Aside0.mk (IsS35.below (by repeat (first | (with_reducible first | exact HI171.out | apply IsS35.alloc | apply IsS35.drewN | apply IsS35.drew | apply IsS35.set_0 | apply IsS35.set_1 | apply IsS35.set_2 | apply IsS35.set_3 | apply IsS35.set_4) | exact HI171.out)) hb); have n3_ := Aside0.mk (below_step (by repeat (first | (with_reducible first | exact HB.out | apply below_alloc | apply pw_below_drewN | apply below_drew1 | refine below_set ?_ (IsS35.ge HI171.out)) | exact HB.out)) hb); clear HO165; clear HI171; clear HB; have HO165 := n0_; have HO174 := n1_; have HI171 := n2_; have HB := n3_; clear n0_ n1_ n2_ n3_; clear hb ho25; obtain ⟨Ao26, co26, eo26⟩ := Kd.R_slice HO174.out; subst eo26) | ((with_reducible refine gate_callee (f := 9) rfl ?_); refine goesL_ (some 11) rfl rfl Try.func9 (by kernel_rfl) rfl #[.slice Ao26 y172.length co26, .int .i64 (-3)] rfl (by (try simp only [List.map_toArray, List.map_cons, List.map_nil]); first | done | rfl | (simp only [List.length_drop, List.length_take]; rfl)) ?_; (with_reducible refine (cursor_Open.calls _ _ y172 (-3) t175 t176 t177 t178 t179 _ _ (Below.refl _ _) ?side1 ?side2 A2.out).mono ?_); (case side1 => repeat (first | exact (Kd.R_reads' HO174.out).2.2 | (with_reducible refine Kd.C_alloc ?_ _) | (with_reducible refine Kd.C_drewN ?_ _) | (with_reducible refine Kd.C_drew ?_))); (case side2 => exact (Kd.R_reads' HO174.out).2.1); rintro e w27 ⟨g180, rfl, hi, hb, hb2⟩; refine ⟨_, rfl, ?_⟩; have n0_ := Aside0.mk (Kd.R_below (by (with_reducible repeat (first | apply Kd.R_alloc | apply Kd.R_drewN | apply Kd.R_drew)); exact HO165.out) hb2); have n1_ := Aside0.mk (Kd.R_below (by (with_reducible repeat (first | apply Kd.R_alloc | apply Kd.R_drewN | apply Kd.R_drew)); exact HO174.out) hb2); have n2_ := Aside0.mk (IsS35.below (by repeat (first | (with_reducible first | exact HI171.out | apply IsS35.alloc | apply IsS35.drewN | apply IsS35.drew | apply IsS35.set_0 | apply IsS35.set_1 | apply IsS35.set_2 | apply IsS35.set_3 | apply IsS35.set_4) | exact HI171.out)) hb2); have n3_ := Aside0.mk (below_step (by repeat (first | (with_reducible first | exact HB.out | apply below_alloc | apply pw_below_drewN | apply below_drew1 | refine below_set ?_ (IsS35.ge HI171.out)) | exact HB.out)) hb2); have n4_ := Aside0.mk ((show IsS35 w w27 g180 t175 t176 t177 t178 t179 from ⟨hi.1, Nat.le_trans (below_size (by repeat (first | (with_reducible first | exact HB.out | apply below_alloc | apply pw_below_drewN | apply below_drew1 | refine below_set ?_ (IsS35.ge HI171.out)) | exact HB.out))) hi.2⟩)); have n5_ := Aside0.mk (((Nat.ne_of_lt (Nat.lt_of_lt_of_le (IsS35.lt (show IsS35 w _ g171 t166 t167 t168 t169 t170 from by repeat (first | (with_reducible first | exact HI171.out | apply IsS35.alloc | apply IsS35.drewN | apply IsS35.drew | apply IsS35.set_0 | apply IsS35.set_1 | apply IsS35.set_2 | apply IsS35.set_3 | apply IsS35.set_4) | exact HI171.out))) hi.2)).symm : g180 ≠ g171)); have n6_ := Aside0.mk ((Nat.ne_of_lt (Nat.lt_of_lt_of_le (IsS35.lt (show IsS35 w _ g171 t166 t167 t168 t169 t170 from by repeat (first | (with_reducible first | exact HI171.out | apply IsS35.alloc | apply IsS35.drewN | apply IsS35.drew | apply IsS35.set_0 | apply IsS35.set_1 | apply IsS35.set_2 | apply IsS35.set_3 | apply IsS35.set_4) | exact HI171.out))) hi.2) : g171 ≠ g180)); clear HO165; clear HO174; clear HI171; clear HB; have HO165 := n0_; have HO174 := n1_; have HI171 := n2_; have HB := n3_; have HI180 := n4_; have NB180_171 := n5_; have NB171_180 := n6_; clear n0_ n1_ n2_ n3_ n4_ n5_ n6_; (try clear hb); (try clear hb2); (try clear hk); (try clear hi)) | ((with_reducible refine gate_callee (f := 15) rfl ?_); refine goesL_ (some 19) rfl rfl Try.func15 (by kernel_rfl) rfl #[.pointer (some ⟨g171, 0, none⟩)] rfl (by (try simp only [List.map_toArray, List.map_cons, List.map_nil]); first | done | rfl | (simp only [List.length_drop, List.length_take]; rfl)) ?_; (with_reducible refine (cursor_Cursor_Byte.calls g171 t166 t167 t168 t169 t170 t181 t182 t183 t184 t185 t186 w _ ?side1 ?side2 A3.out).mono ?_); (case side1 => repeat (first | (with_reducible first | exact HI171.out | apply IsS35.alloc | apply IsS35.drewN | apply IsS35.drew | apply IsS35.set_0 | apply IsS35.set_1 | apply IsS35.set_2 | apply IsS35.set_3 | apply IsS35.set_4) | exact HI171.out)); (case side2 => repeat (first | (with_reducible first | exact HB.out | apply below_alloc | apply pw_below_drewN | apply below_drew1 | refine below_set ?_ (IsS35.ge HI171.out) | refine below_set ?_ (IsS35.ge HI180.out)) | exact HB.out)); rintro e w28 ⟨rfl, hi, hb, hk⟩; refine ⟨_, rfl, ?_⟩; have n0_ := Aside0.mk (Kd.R_mono (Kd.R_keep (IsS35.apart (show IsS35 w _ g171 t166 t167 t168 t169 t170 from by repeat (first | (with_reducible first | exact HI171.out | apply IsS35.alloc | apply IsS35.drewN | apply IsS35.drew | apply IsS35.set_0 | apply IsS35.set_1 | apply IsS35.set_2 | apply IsS35.set_3 | apply IsS35.set_4) | exact HI171.out)) (by (with_reducible repeat (first | apply Kd.R_alloc | apply Kd.R_drewN | apply Kd.R_drew)); exact HO165.out) (by decide)) hk (fun _ h => h.2)) (fun _ h => h.1)); have n1_ := Aside0.mk (Kd.R_mono (Kd.R_keep (IsS35.apart (show IsS35 w _ g171 t166 t167 t168 t169 t170 from by repeat (first | (with_reducible first | exact HI171.out | apply IsS35.alloc | apply IsS35.drewN | apply IsS35.drew | apply IsS35.set_0 | apply IsS35.set_1 | apply IsS35.set_2 | apply IsS35.set_3 | apply IsS35.set_4) | exact HI171.out)) (by (with_reducible repeat (first | apply Kd.R_alloc | apply Kd.R_drewN | apply Kd.R_drew)); exact HO174.out) (by decide)) hk (fun _ h => h.2)) (fun _ h => h.1)); have n2_ := Aside0.mk ((IsS35.keepS (show IsS35 w _ g180 t175 t176 t177 t178 t179 from by repeat (first | (with_reducible first | exact HI180.out | apply IsS35.alloc | apply IsS35.drewN | apply IsS35.drew | apply IsS35.set_0 | apply IsS35.set_1 | apply IsS35.set_2 | apply IsS35.set_3 | apply IsS35.set_4) | exact HI180.out)) hk NB180_171.out (IsS35.cells (show IsS35 w _ g171 t166 t167 t168 t169 t170 from by repeat (first | (with_reducible first | exact HI171.out | apply IsS35.alloc | apply IsS35.drewN | apply IsS35.drew | apply IsS35.set_0 | apply IsS35.set_1 | apply IsS35.set_2 | apply IsS35.set_3 | apply IsS35.set_4) | exact HI171.out))))); have n3_ := Aside0.mk (hb); have n4_ := Aside0.mk (hi); clear HO165; clear HO174; clear HI180; clear HB; clear HI171; have HO165 := n0_; have HO174 := n1_; have HI180 := n2_; have HB := n3_; have HI171 := n4_; clear n0_ n1_ n2_ n3_ n4_; (try clear hb); (try clear hb2); (try clear hk); (try clear hi)) | ((with_reducible refine gate_callee (f := 17) rfl ?_); refine goesL_ (some 21) rfl rfl Try.func17 (by kernel_rfl) rfl #[.pointer (some ⟨g171, 0, none⟩), .int .i64 300] rfl (by (try simp only [List.map_toArray, List.map_cons, List.map_nil]); first | done | rfl | (simp only [List.length_drop, List.length_take]; rfl)) ?_; (with_reducible refine (cursor_Cursor_Num.calls k g171 t182 t183 t184 t185 t186 300 t187 t188 t189 t190 t191 t192 w _ ?side1 ?side2 A4.out).mono ?_); (case side1 => repeat (first | (with_reducible first | exact HI171.out | apply IsS35.alloc | apply IsS35.drewN | apply IsS35.drew | apply IsS35.set_0 | apply IsS35.set_1 | apply IsS35.set_2 | apply IsS35.set_3 | apply IsS35.set_4) | exact HI171.out)); (case side2 => repeat (first | (with_reducible first | exact HB.out | apply below_alloc | apply pw_below_drewN | apply below_drew1 | refine below_set ?_ (IsS35.ge HI171.out) | refine below_set ?_ (IsS35.ge HI180.out)) | exact HB.out)); rintro e w29 ⟨rfl, hi, hb, hk⟩; refine ⟨_, rfl, ?_⟩; have n0_ := Aside0.mk (Kd.R_mono (Kd.R_keep (IsS35.apart (show IsS35 w _ g171 t182 t183 t184 t185 t186 from by repeat (first | (with_reducible first | exact HI171.out | apply IsS35.alloc | apply IsS35.drewN | apply IsS35.drew | apply IsS35.set_0 | apply IsS35.set_1 | apply IsS35.set_2 | apply IsS35.set_3 | apply IsS35.set_4) | exact HI171.out)) (by (with_reducible repeat (first | apply Kd.R_alloc | apply Kd.R_drewN | apply Kd.R_drew)); exact HO165.out) (by decide)) hk (fun _ h => h.2)) (fun _ h => h.1)); have n1_ := Aside0.mk (Kd.R_mono (Kd.R_keep (IsS35.apart (show IsS35 w _ g171 t182 t183 t184 t185 t186 from by repeat (first | (with_reducible first | exact HI171.out | apply IsS35.alloc | apply IsS35.drewN | apply IsS35.drew | apply IsS35.set_0 | apply IsS35.set_1 | apply IsS35.set_2 | apply IsS35.set_3 | apply IsS35.set_4) | exact HI171.out)) (by (with_reducible repeat (first | apply Kd.R_alloc | apply Kd.R_drewN | apply Kd.R_drew)); exact HO174.out) (by decide)) hk (fun _ h => h.2)) (fun _ h => h.1)); have n2_ := Aside0.mk ((IsS35.keepS (show IsS35 w _ g180 t175 t176 t177 t178 t179 from by repeat (first | (with_reducible first | exact HI180.out | apply IsS35.alloc | apply IsS35.drewN | apply IsS35.drew | apply IsS35.set_0 | apply IsS35.set_1 | apply IsS35.set_2 | apply IsS35.set_3 | apply IsS35.set_4) | exact HI180.out)) hk NB180_171.out (IsS35.cells (show IsS35 w _ g171 t182 t183 t184 t185 t186 from by repeat (first | (with_reducible first | exact HI171.out | apply IsS35.alloc | apply IsS35.drewN | apply IsS35.drew | apply IsS35.set_0 | apply IsS35.set_1 | apply IsS35.set_2 | apply IsS35.set_3 | apply IsS35.set_4) | exact HI171.out))))); have n3_ := Aside0.mk (hb); have n4_ := Aside0.mk (hi); clear HO165; clear HO174; clear HI180; clear HB; clear HI171; have HO165 := n0_; have HO174 := n1_; have HI180 := n2_; have HB := n3_; have HI171 := n4_; clear n0_ n1_ n2_ n3_ n4_; (try clear hb); (try clear hb2); (try clear hk); (try clear hi)) | ((with_reducible refine gate_callee (f := 17) rfl ?_); refine goesL_ (some 23) rfl rfl Try.func17 (by kernel_rfl) rfl #[.pointer (some ⟨g171, 0, none⟩), .int .i64 9] rfl (by (try simp only [List.map_toArray, List.map_cons, List.map_nil]); first | done | rfl | (simp only [List.length_drop, List.length_take]; rfl)) ?_; (with_reducible refine (cursor_Cursor_Num.calls k g171 t188 t189 t190 t191 t192 9 t193 t194 t195 t196 t197 t198 w _ ?side1 ?side2 A5.out).mono ?_); (case side1 => repeat (first | (with_reducible first | exact HI171.out | apply IsS35.alloc | apply IsS35.drewN | apply IsS35.drew | apply IsS35.set_0 | apply IsS35.set_1 | apply IsS35.set_2 | apply IsS35.set_3 | apply IsS35.set_4) | exact HI171.out)); (case side2 => repeat (first | (with_reducible first | exact HB.out | apply below_alloc | apply pw_below_drewN | apply below_drew1 | refine below_set ?_ (IsS35.ge HI171.out) | refine below_set ?_ (IsS35.ge HI180.out)) | exact HB.out)); rintro e w30 ⟨rfl, hi, hb, hk⟩; refine ⟨_, rfl, ?_⟩; have n0_ := Aside0.mk (Kd.R_mono (Kd.R_keep (IsS35.apart (show IsS35 w _ g171 t188 t189 t190 t191 t192 from by repeat (first | (with_reducible first | exact HI171.out | apply IsS35.alloc | apply IsS35.drewN | apply IsS35.drew | apply IsS35.set_0 | apply IsS35.set_1 | apply IsS35.set_2 | apply IsS35.set_3 | apply IsS35.set_4) | exact HI171.out)) (by (with_reducible repeat (first | apply Kd.R_alloc | apply Kd.R_drewN | apply Kd.R_drew)); exact HO165.out) (by decide)) hk (fun _ h => h.2)) (fun _ h => h.1)); have n1_ := Aside0.mk (Kd.R_mono (Kd.R_keep (IsS35.apart (show IsS35 w _ g171 t188 t189 t190 t191 t192 from by repeat (first | (with_reducible first | exact HI171.out | apply IsS35.alloc | apply IsS35.drewN | apply IsS35.drew | apply IsS35.set_0 | apply IsS35.set_1 | apply IsS35.set_2 | apply IsS35.set_3 | apply IsS35.set_4) | exact HI171.out)) (by (with_reducible repeat (first | apply Kd.R_alloc | apply Kd.R_drewN | apply Kd.R_drew)); exact HO174.out) (by decide)) hk (fun _ h => h.2)) (fun _ h => h.1)); have n2_ := Aside0.mk ((IsS35.keepS (show IsS35 w _ g180 t175 t176 t177 t178 t179 from by repeat (first | (with_reducible first | exact HI180.out | apply IsS35.alloc | apply IsS35.drewN | apply IsS35.drew | apply IsS35.set_0 | apply IsS35.set_1 | apply IsS35.set_2 | apply IsS35.set_3 | apply IsS35.set_4) | exact HI180.out)) hk NB180_171.out (IsS35.cells (show IsS35 w _ g171 t188 t189 t190 t191 t192 from by repeat (first | (with_reducible first | exact HI171.out | apply IsS35.alloc | apply IsS35.drewN | apply IsS35.drew | apply IsS35.set_0 | apply IsS35.set_1 | apply IsS35.set_2 | apply IsS35.set_3 | apply IsS35.set_4) | exact HI171.out))))); have n3_ := Aside0.mk (hb); have n4_ := Aside0.mk (hi); clear HO165; clear HO174; clear HI180; clear HB; clear HI171; have HO165 := n0_; have HO174 := n1_; have HI180 := n2_; have HB := n3_; have HI171 := n4_; clear n0_ n1_ n2_ n3_ n4_; (try clear hb); (try clear hb2); (try clear hk); (try clear hi)) | ((with_reducible refine gate_callee (f := 13) rfl ?_); refine goesL_ (some 27) rfl rfl Try.func13 (by kernel_rfl) rfl #[.pointer (some ⟨g171, 0, none⟩)] rfl (by (try simp only [List.map_toArray, List.map_cons, List.map_nil]); first | done | rfl | (simp only [List.length_drop, List.length_take]; rfl)) ?_; (with_reducible refine (cursor_place_Fault.calls g171 t194 t195 t196 t197 t198 t199 t200 t201 t202 t203 t204 t205 t206 w _ ?side1 ?side2 A6.out).mono ?_); (case side1 => repeat (first | (with_reducible first | exact HI171.out | apply IsS35.alloc | apply IsS35.drewN | apply IsS35.drew | apply IsS35.set_0 | apply IsS35.set_1 | apply IsS35.set_2 | apply IsS35.set_3 | apply IsS35.set_4) | exact HI171.out)); (case side2 => repeat (first | (with_reducible first | exact HB.out | apply below_alloc | apply pw_below_drewN | apply below_drew1 | refine below_set ?_ (IsS35.ge HI171.out) | refine below_set ?_ (IsS35.ge HI180.out)) | exact HB.out)); rintro e w31 ⟨rfl, hi, hb, hk⟩; refine ⟨_, rfl, ?_⟩; have n0_ := Aside0.mk (Kd.R_mono (Kd.R_keep (IsS35.apart (show IsS35 w _ g171 t194 t195 t196 t197 t198 from by repeat (first | (with_reducible first | exact HI171.out | apply IsS35.alloc | apply IsS35.drewN | apply IsS35.drew | apply IsS35.set_0 | apply IsS35.set_1 | apply IsS35.set_2 | apply IsS35.set_3 | apply IsS35.set_4) | exact HI171.out)) (by (with_reducible repeat (first | apply Kd.R_alloc | apply Kd.R_drewN | apply Kd.R_drew)); exact HO165.out) (by decide)) hk (fun _ h => h.2)) (fun _ h => h.1)); have n1_ := Aside0.mk (Kd.R_mono (Kd.R_keep (IsS35.apart (show IsS35 w _ g171 t194 t195 t196 t197 t198 from by repeat (first | (with_reducible first | exact HI171.out | apply IsS35.alloc | apply IsS35.drewN | apply IsS35.drew | apply IsS35.set_0 | apply IsS35.set_1 | apply IsS35.set_2 | apply IsS35.set_3 | apply IsS35.set_4) | exact HI171.out)) (by (with_reducible repeat (first | apply Kd.R_alloc | apply Kd.R_drewN | apply Kd.R_drew)); exact HO174.out) (by decide)) hk (fun _ h => h.2)) (fun _ h => h.1)); have n2_ := Aside0.mk ((IsS35.keepS (show IsS35 w _ g180 t175 t176 t177 t178 t179 from by repeat (first | (with_reducible first | exact HI180.out | apply IsS35.alloc | apply IsS35.drewN | apply IsS35.drew | apply IsS35.set_0 | apply IsS35.set_1 | apply IsS35.set_2 | apply IsS35.set_3 | apply IsS35.set_4) | exact HI180.out)) hk NB180_171.out (IsS35.cells (show IsS35 w _ g171 t194 t195 t196 t197 t198 from by repeat (first | (with_reducible first | exact HI171.out | apply IsS35.alloc | apply IsS35.drewN | apply IsS35.drew | apply IsS35.set_0 | apply IsS35.set_1 | apply IsS35.set_2 | apply IsS35.set_3 | apply IsS35.set_4) | exact HI171.out))))); have n3_ := Aside0.mk (hb); have n4_ := Aside0.mk (hi); clear HO165; clear HO174; clear HI180; clear HB; clear HI171; have HO165 := n0_; have HO174 := n1_; have HI180 := n2_; have HB := n3_; have HI171 := n4_; clear n0_ n1_ n2_ n3_ n4_; (try clear hb); (try clear hb2); (try clear hk); (try clear hi)) | ((with_reducible refine gate_dst (N := 6) rfl ?_); refine box_event ?hg (N := 6) ?hd (cs := #[.int .i64 0, .int .i64 0, .int .i64 0]) (t := 31) ?hr ?_; (case hd => rfl); (case hg => rfl); (case hr => first | (go_simp; done) | (go_simp; rfl)); intro gb207 hg w32 hbox hb; have n0_ := Aside0.mk (Kd.R_below (by (with_reducible repeat (first | apply Kd.R_alloc | apply Kd.R_drewN | apply Kd.R_drew)); exact HO165.out) hb); have n1_ := Aside0.mk (Kd.R_below (by (with_reducible repeat (first | apply Kd.R_alloc | apply Kd.R_drewN | apply Kd.R_drew)); exact HO174.out) hb); have n2_ := Aside0.mk (IsS35.below (by repeat (first | (with_reducible first | exact HI171.out | apply IsS35.alloc | apply IsS35.drewN | apply IsS35.drew | apply IsS35.set_0 | apply IsS35.set_1 | apply IsS35.set_2 | apply IsS35.set_3 | apply IsS35.set_4) | exact HI171.out)) hb); have n3_ := Aside0.mk (IsS35.below (by repeat (first | (with_reducible first | exact HI180.out | apply IsS35.alloc | apply IsS35.drewN | apply IsS35.drew | apply IsS35.set_0 | apply IsS35.set_1 | apply IsS35.set_2 | apply IsS35.set_3 | apply IsS35.set_4) | exact HI180.out)) hb); have n4_ := Aside0.mk (below_step (by repeat (first | (with_reducible first | exact HB.out | apply below_alloc | apply pw_below_drewN | apply below_drew1 | refine below_set ?_ (IsS35.ge HI171.out) | refine below_set ?_ (IsS35.ge HI180.out)) | exact HB.out)) hb); have n5_ := Aside0.mk (hbox); have n6_ := Aside0.mk ((by rw [hg]; exact (below_size (by repeat (first | (with_reducible first | exact HB.out | apply below_alloc | apply pw_below_drewN | apply below_drew1 | refine below_set ?_ (IsS35.ge HI171.out) | refine below_set ?_ (IsS35.ge HI180.out)) | exact HB.out))) : w.heap.size ≤ gb207)); have n7_ := Aside0.mk ((by rw [hg]; exact (below_size (by repeat (first | (with_reducible first | exact HB.out | apply below_alloc | apply pw_below_drewN | apply below_drew1 | refine below_set ?_ (IsS35.ge HI171.out) | refine below_set ?_ (IsS35.ge HI180.out)) | exact HB.out))) : w.heap.size ≤ gb207)); have n8_ := Aside0.mk ((by rw [hg]; exact Nat.ne_of_lt (IsS35.lt (show IsS35 w _ g171 t202 t203 t204 t205 t206 from by repeat (first | (with_reducible first | exact HI171.out | apply IsS35.alloc | apply IsS35.drewN | apply IsS35.drew | apply IsS35.set_0 | apply IsS35.set_1 | apply IsS35.set_2 | apply IsS35.set_3 | apply IsS35.set_4) | exact HI171.out))) : g171 ≠ gb207)); have n9_ := Aside0.mk ((by rw [hg]; exact Nat.ne_of_gt (IsS35.lt (show IsS35 w _ g171 t202 t203 t204 t205 t206 from by repeat (first | (with_reducible first | exact HI171.out | apply IsS35.alloc | apply IsS35.drewN | apply IsS35.drew | apply IsS35.set_0 | apply IsS35.set_1 | apply IsS35.set_2 | apply IsS35.set_3 | apply IsS35.set_4) | exact HI171.out))) : gb207 ≠ g171)); have n10_ := Aside0.mk ((by rw [hg]; exact Nat.ne_of_lt (IsS35.lt (show IsS35 w _ g180 t175 t176 t177 t178 t179 from by repeat (first | (with_reducible first | exact HI180.out | apply IsS35.alloc | apply IsS35.drewN | apply IsS35.drew | apply IsS35.set_0 | apply IsS35.set_1 | apply IsS35.set_2 | apply IsS35.set_3 | apply IsS35.set_4) | exact HI180.out))) : g180 ≠ gb207)); have n11_ := Aside0.mk ((by rw [hg]; exact Nat.ne_of_gt (IsS35.lt (show IsS35 w _ g180 t175 t176 t177 t178 t179 from by repeat (first | (with_reducible first | exact HI180.out | apply IsS35.alloc | apply IsS35.drewN | apply IsS35.drew | apply IsS35.set_0 | apply IsS35.set_1 | apply IsS35.set_2 | apply IsS35.set_3 | apply IsS35.set_4) | exact HI180.out))) : gb207 ≠ g180)); clear HO165; clear HO174; clear HI171; clear HI180; clear HB; have HO165 := n0_; have HO174 := n1_; have HI171 := n2_; have HI180 := n3_; have HB := n4_; have BK207 := n5_; have GW207 := n6_; have GE207 := n7_; have NB171_207 := n8_; have NB207_171 := n9_; have NB180_207 := n10_; have NB207_180 := n11_; clear n0_ n1_ n2_ n3_ n4_ n5_ n6_ n7_ n8_ n9_ n10_ n11_; clear hb hbox hg; have hnb33 := NB207_171.out; have hnc33 := NB171_207.out; have hnb34 := NB207_180.out; have hnc34 := NB180_207.out; have hcz35_0 : w32.cell? ⟨gb207, 0, none⟩ = some (.int .i64 0) := (blk_cell BK207.out 0).trans rfl; have hcz35_1 : w32.cell? ⟨gb207, 1, none⟩ = some (.int .i64 0) := (blk_cell BK207.out 1).trans rfl; have hcz35_2 : w32.cell? ⟨gb207, 2, none⟩ = some (.int .i64 0) := (blk_cell BK207.out 2).trans rfl; have hfz35_0 := blk_frozen BK207.out 0; have hfz35_1 := blk_frozen BK207.out 1; have hfz35_2 := blk_frozen BK207.out 2) | ((with_reducible refine gate_callee (f := 17) rfl ?_); refine goesL_ (some 29) rfl rfl Try.func17 (by kernel_rfl) rfl #[.pointer (some ⟨g180, 0, none⟩), .int .i64 8] rfl (by (try simp only [List.map_toArray, List.map_cons, List.map_nil]); first | done | rfl | (simp only [List.length_drop, List.length_take]; rfl)) ?_; (with_reducible refine (cursor_Cursor_Num.calls k g180 t175 t176 t177 t178 t179 8 t208 t209 t210 t211 t212 t213 w _ ?side1 ?side2 A7.out).mono ?_); (case side1 => repeat (first | (with_reducible first | exact HI180.out | apply IsS35.alloc | apply IsS35.drewN | apply IsS35.drew | apply IsS35.set_0 | apply IsS35.set_1 | apply IsS35.set_2 | apply IsS35.set_3 | apply IsS35.set_4 | refine IsS35.far ?_ NB180_207.out (by repeat (first | exact TypeAt.mk BK207.out | apply TypeAt.set | apply TypeAt.alloc | apply TypeAt.drewN | apply TypeAt.drew)) (by decide) _) | exact HI180.out)); (case side2 => repeat (first | (with_reducible first | exact HB.out | apply below_alloc | apply pw_below_drewN | apply below_drew1 | refine below_set ?_ (IsS35.ge HI171.out) | refine below_set ?_ (IsS35.ge HI180.out) | refine below_set ?_ GE207.out) | exact HB.out)); rintro e w36 ⟨rfl, hi, hb, hk⟩; refine ⟨_, rfl, ?_⟩; have n0_ := Aside0.mk (Kd.R_mono (Kd.R_keep (IsS35.apart (show IsS35 w _ g180 t175 t176 t177 t178 t179 from by repeat (first | (with_reducible first | exact HI180.out | apply IsS35.alloc | apply IsS35.drewN | apply IsS35.drew | apply IsS35.set_0 | apply IsS35.set_1 | apply IsS35.set_2 | apply IsS35.set_3 | apply IsS35.set_4 | refine IsS35.far ?_ NB180_207.out (by repeat (first | exact TypeAt.mk BK207.out | apply TypeAt.set | apply TypeAt.alloc | apply TypeAt.drewN | apply TypeAt.drew)) (by decide) _) | exact HI180.out)) (by (with_reducible repeat (first | apply Kd.R_alloc | apply Kd.R_drewN | apply Kd.R_drew)); exact (Kd.R_mono (Kd.R_far (p := ⟨gb207, 2, none⟩) (Kd.R_far (p := ⟨gb207, 1, none⟩) (Kd.R_far (p := ⟨gb207, 0, none⟩) (Kd.R_types HO165.out BK207.out (by decide)) (fun _ hk => hk.2) (.int .i64 t199)) (fun _ hk => hk.2) (.int .i64 t200)) (fun _ hk => hk.2) (.int .i64 t201)) (fun _ h_ => h_.1))) (by decide)) hk (fun _ h => h.2)) (fun _ h => h.1)); have n1_ := Aside0.mk ((IsS35.keepS (show IsS35 w _ g171 t202 t203 t204 t205 t206 from by repeat (first | (with_reducible first | exact HI171.out | apply IsS35.alloc | apply IsS35.drewN | apply IsS35.drew | apply IsS35.set_0 | apply IsS35.set_1 | apply IsS35.set_2 | apply IsS35.set_3 | apply IsS35.set_4 | refine IsS35.far ?_ NB171_207.out (by repeat (first | exact TypeAt.mk BK207.out | apply TypeAt.set | apply TypeAt.alloc | apply TypeAt.drewN | apply TypeAt.drew)) (by decide) _) | exact HI171.out)) hk NB171_180.out (IsS35.cells (show IsS35 w _ g180 t175 t176 t177 t178 t179 from by repeat (first | (with_reducible first | exact HI180.out | apply IsS35.alloc | apply IsS35.drewN | apply IsS35.drew | apply IsS35.set_0 | apply IsS35.set_1 | apply IsS35.set_2 | apply IsS35.set_3 | apply IsS35.set_4 | refine IsS35.far ?_ NB180_207.out (by repeat (first | exact TypeAt.mk BK207.out | apply TypeAt.set | apply TypeAt.alloc | apply TypeAt.drewN | apply TypeAt.drew)) (by decide) _) | exact HI180.out))))); have n2_ := Aside0.mk (Kd.R_mono (Kd.R_keep (IsS35.apart (show IsS35 w _ g180 t175 t176 t177 t178 t179 from by repeat (first | (with_reducible first | exact HI180.out | apply IsS35.alloc | apply IsS35.drewN | apply IsS35.drew | apply IsS35.set_0 | apply IsS35.set_1 | apply IsS35.set_2 | apply IsS35.set_3 | apply IsS35.set_4 | refine IsS35.far ?_ NB180_207.out (by repeat (first | exact TypeAt.mk BK207.out | apply TypeAt.set | apply TypeAt.alloc | apply TypeAt.drewN | apply TypeAt.drew)) (by decide) _) | exact HI180.out)) (by (with_reducible repeat (first | apply Kd.R_alloc | apply Kd.R_drewN | apply Kd.R_drew)); exact (Kd.R_mono (Kd.R_far (p := ⟨gb207, 2, none⟩) (Kd.R_far (p := ⟨gb207, 1, none⟩) (Kd.R_far (p := ⟨gb207, 0, none⟩) (Kd.R_types HO174.out BK207.out (by decide)) (fun _ hk => hk.2) (.int .i64 t199)) (fun _ hk => hk.2) (.int .i64 t200)) (fun _ hk => hk.2) (.int .i64 t201)) (fun _ h_ => h_.1))) (by decide)) hk (fun _ h => h.2)) (fun _ h => h.1)); have n3_ := Aside0.mk (KeepBut.blk hk (g' := gb207) (o := .cells #[.int .i64 t199, .int .i64 t200, .int .i64 t201] 31 (0, 0)) (by (with_reducible repeat (first | refine blk_drewN ?_ _ | refine blk_drew ?_ | refine blk_alloc ?_ _)); refine blk_put (cs := #[.int .i64 t199, .int .i64 t200, .int .i64 0]) ?_ 2 _ rfl; (with_reducible repeat (first | refine blk_drewN ?_ _ | refine blk_drew ?_ | refine blk_alloc ?_ _)); refine blk_put (cs := #[.int .i64 t199, .int .i64 0, .int .i64 0]) ?_ 1 _ rfl; (with_reducible repeat (first | refine blk_drewN ?_ _ | refine blk_drew ?_ | refine blk_alloc ?_ _)); refine blk_put (cs := #[.int .i64 0, .int .i64 0, .int .i64 0]) ?_ 0 _ rfl; (with_reducible repeat (first | refine blk_drewN ?_ _ | refine blk_drew ?_ | refine blk_alloc ?_ _)); exact BK207.out) NB207_180.out (by simp)); have n4_ := Aside0.mk (hb); have n5_ := Aside0.mk (hi); clear HO165; clear HI171; clear HO174; clear BK207; clear HB; clear HI180; have HO165 := n0_; have HI171 := n1_; have HO174 := n2_; have BK207 := n3_; have HB := n4_; have HI180 := n5_; clear n0_ n1_ n2_ n3_ n4_ n5_; (try clear hb); (try clear hb2); (try clear hk); (try clear hi)))
                  have n0_ := Aside0.mk (Kd.R_drew HO165.out)
                  have n1_ := Aside0.mk (Kd.R_drew HO174.out)
                  have n2_ := Aside0.mk (blk_drew BK207.out)
                  have n3_ := Aside0.mk (IsS35.drew HI171.out)
                  have n4_ := Aside0.mk (IsS35.drew HI180.out)
                  have n5_ := Aside0.mk (below_drew1 HB.out)
                  clear HO165
                  clear HO174
                  clear BK207
                  clear HI171
                  clear HI180
                  clear HB
                  have HO165 := n0_
                  have HO174 := n1_
                  have BK207 := n2_
                  have HI171 := n3_
                  have HI180 := n4_
                  have HB := n5_
                  clear n0_ n1_ n2_ n3_ n4_ n5_
                  refine start_ (n := 46) (S := fun w' => w'.cell? ⟨gb207, 0, none⟩ = some (.int .i64 t199) ∧ w'.cell? ⟨gb207, 1, none⟩ = some (.int .i64 t200) ∧ w'.cell? ⟨gb207, 2, none⟩ = some (.int .i64 t201)) (ds := []) #[false, false, false, false, false, false, false, false, false, false, false, false, false, false, false, false, false, false, false, false, false, false, false, false, false, false, false, false, false, false, false, false, false, false, false, false, false, false, false, false, false, false, false, false, false, false] (by kernel_rfl) rfl rfl ⟨(blk_cell BK207.out 0).trans rfl, (blk_cell BK207.out 1).trans rfl, (blk_cell BK207.out 2).trans rfl⟩ (fun hHeld => ?_); refine with_tabW decklelaw04_small.tab10 decklelaw04_small.bits10 (fun HT_ HW_ => ?_)
                  generalize w36.drew = w37 at HO165 HO174 BK207 HI171 HI180 HB hHeld ⊢
                  refine pure_ (i := 0) (N := some 30) (v := ?_) (a' := ?_) #[true, false, false, false, false, false, false, false, false, false, false, false, false, false, false, false, false, false, false, false, false, false, false, false, false, false, false, false, false, false, false, false, false, false, false, false, false, false, false, false, false, false, false, false, false, false] rfl rfl (any_of HT_.out (by kernel_rfl)) (fun _ _ _ h => h) (Or.inl ⟨by rfl, ?_⟩) ?_ ?_
                  rotate_left
                  · intro w'
                    go_simp
                    with_reducible rfl
                  rotate_left
                  · simp only [Act.put, List.setIfInBounds_toArray, List.set_cons_zero, List.set_cons_succ, i64_w, i32_w]
                    rfl
                  refine pure_ (i := 1) (N := some 31) (v := ?_) (a' := ?_) #[true, true, false, false, false, false, false, false, false, false, false, false, false, false, false, false, false, false, false, false, false, false, false, false, false, false, false, false, false, false, false, false, false, false, false, false, false, false, false, false, false, false, false, false, false, false] rfl rfl (any_of HT_.out (by kernel_rfl)) (fun _ _ _ h => h) (Or.inl ⟨by rfl, ?_⟩) ?_ ?_
                  rotate_left
                  · intro w'
                    go_simp
                    with_reducible rfl
                  rotate_left
                  · simp only [Act.put, List.setIfInBounds_toArray, List.set_cons_zero, List.set_cons_succ, i64_w, i32_w]
                    rfl
                  refine pure_ (i := 2) (N := some 32) (v := ?_) (a' := ?_) #[true, true, true, false, false, false, false, false, false, false, false, false, false, false, false, false, false, false, false, false, false, false, false, false, false, false, false, false, false, false, false, false, false, false, false, false, false, false, false, false, false, false, false, false, false, false] rfl rfl (any_of HT_.out (by kernel_rfl)) (fun _ _ _ h => h) (Or.inl ⟨by rfl, ?_⟩) ?_ ?_
                  rotate_left
                  · intro w'
                    go_simp
                    with_reducible rfl
                  rotate_left
                  · simp only [Act.put, List.setIfInBounds_toArray, List.set_cons_zero, List.set_cons_succ, i64_w, i32_w]
                    rfl
                  refine pure_ (i := 3) (N := some 33) (v := ?_) (a' := ?_) #[true, true, true, true, false, false, false, false, false, false, false, false, false, false, false, false, false, false, false, false, false, false, false, false, false, false, false, false, false, false, false, false, false, false, false, false, false, false, false, false, false, false, false, false, false, false] rfl rfl (any_of HT_.out (by kernel_rfl)) (fun _ _ _ h => h) (Or.inl ⟨by rfl, ?_⟩) ?_ ?_
                  rotate_left
                  · intro w'
                    go_simp
                    with_reducible rfl
                  rotate_left
                  · simp only [Act.put, List.setIfInBounds_toArray, List.set_cons_zero, List.set_cons_succ, i64_w, i32_w]
                    rfl
                  refine pure_ (i := 4) (N := some 34) (v := ?_) (a' := ?_) #[true, true, true, true, true, false, false, false, false, false, false, false, false, false, false, false, false, false, false, false, false, false, false, false, false, false, false, false, false, false, false, false, false, false, false, false, false, false, false, false, false, false, false, false, false, false] rfl rfl (any_of HT_.out (by kernel_rfl)) (fun _ _ _ h => h) (Or.inl ⟨by rfl, ?_⟩) ?_ ?_
                  rotate_left
                  · intro w'
                    go_simp
                    with_reducible rfl
                  rotate_left
                  · simp only [Act.put, List.setIfInBounds_toArray, List.set_cons_zero, List.set_cons_succ, i64_w, i32_w]
                    rfl
                  refine pure_ (i := 5) (N := some 35) (v := ?_) (a' := ?_) #[true, true, true, true, true, true, false, false, false, false, false, false, false, false, false, false, false, false, false, false, false, false, false, false, false, false, false, false, false, false, false, false, false, false, false, false, false, false, false, false, false, false, false, false, false, false] rfl rfl (any_of HT_.out (by kernel_rfl)) (fun _ _ _ h => h) (Or.inl ⟨by rfl, ?_⟩) ?_ ?_
                  rotate_left
                  · intro w'
                    go_simp
                    with_reducible rfl
                  rotate_left
                  · simp only [Act.put, List.setIfInBounds_toArray, List.set_cons_zero, List.set_cons_succ, i64_w, i32_w]
                    rfl
                  refine pure_ (i := 6) (N := some 36) (v := ?_) (a' := ?_) #[true, true, true, true, true, true, true, false, false, false, false, false, false, false, false, false, false, false, false, false, false, false, false, false, false, false, false, false, false, false, false, false, false, false, false, false, false, false, false, false, false, false, false, false, false, false] rfl rfl (any_of HT_.out (by kernel_rfl)) (fun _ _ _ h => h) (Or.inl ⟨by rfl, ?_⟩) ?_ ?_
                  rotate_left
                  · intro w'
                    go_simp
                    with_reducible rfl
                  rotate_left
                  · simp only [Act.put, List.setIfInBounds_toArray, List.set_cons_zero, List.set_cons_succ, i64_w, i32_w]
                    rfl
                  refine pure_ (i := 7) (N := some 37) (v := ?_) (a' := ?_) #[true, true, true, true, true, true, true, true, false, false, false, false, false, false, false, false, false, false, false, false, false, false, false, false, false, false, false, false, false, false, false, false, false, false, false, false, false, false, false, false, false, false, false, false, false, false] rfl rfl (any_of HT_.out (by kernel_rfl)) (fun _ _ _ h => h) (Or.inl ⟨by rfl, ?_⟩) ?_ ?_
                  rotate_left
                  · intro w'
                    go_simp
                    with_reducible rfl
                  rotate_left
                  · simp only [Act.put, List.setIfInBounds_toArray, List.set_cons_zero, List.set_cons_succ, i64_w, i32_w]
                    rfl
                  refine pure_ (i := 8) (N := some 38) (v := ?_) (a' := ?_) #[true, true, true, true, true, true, true, true, true, false, false, false, false, false, false, false, false, false, false, false, false, false, false, false, false, false, false, false, false, false, false, false, false, false, false, false, false, false, false, false, false, false, false, false, false, false] rfl rfl (any_of HT_.out (by kernel_rfl)) (fun _ _ _ h => h) (Or.inl ⟨by rfl, ?_⟩) ?_ ?_
                  rotate_left
                  · intro w'
                    go_simp
                    with_reducible rfl
                  rotate_left
                  · simp only [Act.put, List.setIfInBounds_toArray, List.set_cons_zero, List.set_cons_succ, i64_w, i32_w]
                    rfl
                  refine pure_ (i := 9) (N := some 39) (v := ?_) (a' := ?_) #[true, true, true, true, true, true, true, true, true, true, false, false, false, false, false, false, false, false, false, false, false, false, false, false, false, false, false, false, false, false, false, false, false, false, false, false, false, false, false, false, false, false, false, false, false, false] rfl rfl (any_of HT_.out (by kernel_rfl)) (fun _ _ _ h => h) (Or.inl ⟨by rfl, ?_⟩) ?_ ?_
                  rotate_left
                  · intro w'
                    go_simp
                    with_reducible rfl
                  rotate_left
                  · simp only [Act.put, List.setIfInBounds_toArray, List.set_cons_zero, List.set_cons_succ, i64_w, i32_w]
                    rfl
                  refine pure_ (i := 10) (N := some 40) (v := ?_) (a' := ?_) #[true, true, true, true, true, true, true, true, true, true, true, false, false, false, false, false, false, false, false, false, false, false, false, false, false, false, false, false, false, false, false, false, false, false, false, false, false, false, false, false, false, false, false, false, false, false] rfl rfl (any_of HT_.out (by kernel_rfl)) (fun _ _ _ h => h) (Or.inl ⟨by rfl, ?_⟩) ?_ ?_
                  rotate_left
                  · intro w'
                    go_simp
                    with_reducible rfl
                  rotate_left
                  · simp only [Act.put, List.setIfInBounds_toArray, List.set_cons_zero, List.set_cons_succ, i64_w, i32_w]
                    rfl
                  refine pure_ (i := 12) (N := some 42) (v := ?_) (a' := ?_) #[true, true, true, true, true, true, true, true, true, true, true, false, true, false, false, false, false, false, false, false, false, false, false, false, false, false, false, false, false, false, false, false, false, false, false, false, false, false, false, false, false, false, false, false, false, false] rfl rfl (any_of HT_.out (by kernel_rfl)) (fun _ _ _ h => h) (Or.inl ⟨by rfl, ?_⟩) ?_ ?_
                  rotate_left
                  · intro w'
                    go_simp
                    with_reducible rfl
                  rotate_left
                  · simp only [Act.put, List.setIfInBounds_toArray, List.set_cons_zero, List.set_cons_succ, i64_w, i32_w]
                    rfl
                  refine take_ (i := 11) (N := some 41) (v := ?_) (a' := ?_) #[true, true, true, true, true, true, true, true, true, true, true, true, true, false, false, false, false, false, false, false, false, false, false, false, false, false, false, false, false, false, false, false, false, false, false, false, false, false, false, false, false, false, false, false, false, false] rfl rfl (take_ofW HT_.out HW_.out (by kernel_rfl)) (fun _ _ _ h => h) (Or.inl ⟨by rfl, ?_⟩) hHeld ?_ ?_
                  rotate_left
                  · rintro w' ⟨s0, s1, s2⟩
                    go_simp
                    with_reducible rfl
                  rotate_left
                  · simp only [Act.put, List.setIfInBounds_toArray, List.set_cons_zero, List.set_cons_succ, i64_w, i32_w]
                    rfl
                  refine pure_ (i := 13) (N := some 43) (v := ?_) (a' := ?_) #[true, true, true, true, true, true, true, true, true, true, true, true, true, true, false, false, false, false, false, false, false, false, false, false, false, false, false, false, false, false, false, false, false, false, false, false, false, false, false, false, false, false, false, false, false, false] rfl rfl (any_of HT_.out (by kernel_rfl)) (fun _ _ _ h => h) (Or.inl ⟨by rfl, ?_⟩) ?_ ?_
                  rotate_left
                  · intro w'
                    go_simp
                    with_reducible rfl
                  rotate_left
                  · simp only [Act.put, List.setIfInBounds_toArray, List.set_cons_zero, List.set_cons_succ, i64_w, i32_w]
                    rfl
                  refine pure_ (i := 14) (N := some 44) (v := ?_) (a' := ?_) #[true, true, true, true, true, true, true, true, true, true, true, true, true, true, true, false, false, false, false, false, false, false, false, false, false, false, false, false, false, false, false, false, false, false, false, false, false, false, false, false, false, false, false, false, false, false] rfl rfl (any_of HT_.out (by kernel_rfl)) (fun _ _ _ h => h) (Or.inl ⟨by rfl, ?_⟩) ?_ ?_
                  rotate_left
                  · intro w'
                    go_simp
                    with_reducible rfl
                  rotate_left
                  · simp only [Act.put, List.setIfInBounds_toArray, List.set_cons_zero, List.set_cons_succ, i64_w, i32_w]
                    rfl
                  refine pure_ (i := 15) (N := some 45) (v := ?_) (a' := ?_) #[true, true, true, true, true, true, true, true, true, true, true, true, true, true, true, true, false, false, false, false, false, false, false, false, false, false, false, false, false, false, false, false, false, false, false, false, false, false, false, false, false, false, false, false, false, false] rfl rfl (any_of HT_.out (by kernel_rfl)) (fun _ _ _ h => h) (Or.inl ⟨by rfl, ?_⟩) ?_ ?_
                  rotate_left
                  · intro w'
                    go_simp
                    with_reducible rfl
                  rotate_left
                  · simp only [Act.put, List.setIfInBounds_toArray, List.set_cons_zero, List.set_cons_succ, i64_w, i32_w]
                    rfl
                  refine pure_ (i := 16) (N := some 46) (v := ?_) (a' := ?_) #[true, true, true, true, true, true, true, true, true, true, true, true, true, true, true, true, true, false, false, false, false, false, false, false, false, false, false, false, false, false, false, false, false, false, false, false, false, false, false, false, false, false, false, false, false, false] rfl rfl (any_of HT_.out (by kernel_rfl)) (fun _ _ _ h => h) (Or.inl ⟨by rfl, ?_⟩) ?_ ?_
                  rotate_left
                  · intro w'
                    go_simp
                    with_reducible rfl
                  rotate_left
                  · simp only [Act.put, List.setIfInBounds_toArray, List.set_cons_zero, List.set_cons_succ, i64_w, i32_w]
                    rfl
                  refine pure_ (i := 17) (N := some 47) (v := ?_) (a' := ?_) #[true, true, true, true, true, true, true, true, true, true, true, true, true, true, true, true, true, true, false, false, false, false, false, false, false, false, false, false, false, false, false, false, false, false, false, false, false, false, false, false, false, false, false, false, false, false] rfl rfl (any_of HT_.out (by kernel_rfl)) (fun _ _ _ h => h) (Or.inl ⟨by rfl, ?_⟩) ?_ ?_
                  rotate_left
                  · intro w'
                    go_simp
                    with_reducible rfl
                  rotate_left
                  · simp only [Act.put, List.setIfInBounds_toArray, List.set_cons_zero, List.set_cons_succ, i64_w, i32_w]
                    rfl
                  refine pure_ (i := 18) (N := some 48) (v := ?_) (a' := ?_) #[true, true, true, true, true, true, true, true, true, true, true, true, true, true, true, true, true, true, true, false, false, false, false, false, false, false, false, false, false, false, false, false, false, false, false, false, false, false, false, false, false, false, false, false, false, false] rfl rfl (any_of HT_.out (by kernel_rfl)) (fun _ _ _ h => h) (Or.inl ⟨by rfl, ?_⟩) ?_ ?_
                  rotate_left
                  · intro w'
                    go_simp
                    with_reducible rfl
                  rotate_left
                  · simp only [Act.put, List.setIfInBounds_toArray, List.set_cons_zero, List.set_cons_succ, i64_w, i32_w]
                    rfl
                  refine one_ (i := 19) (N := some 49) #[true, true, true, true, true, true, true, true, true, true, true, true, true, true, true, true, true, true, true, true, false, false, false, false, false, false, false, false, false, false, false, false, false, false, false, false, false, false, false, false, false, false, false, false, false, false] rfl rfl (one_of HT_.out (by kernel_rfl)) (by decide) (fun K hK => ?_)
                  refine goes_ Try.func12 (by kernel_rfl) rfl #[.pointer (some ⟨g171, 0, none⟩)] (by rfl) rfl rfl (by (try simp only [List.map_toArray, List.map_cons, List.map_nil]); first | done | rfl | (simp only [List.length_drop, List.length_take]; rfl)) ?_
                  with_reducible refine (cursor_place_At.calls g171 t202 t203 t204 t205 t206 t214 t215 t216 t217 t218 t219 w _ ?side1 ?side2 A12.out).mono ?_
                  (case side1 => repeat (first | (with_reducible first | exact HI171.out | apply IsS35.alloc | apply IsS35.drewN | apply IsS35.drew | apply IsS35.set_0 | apply IsS35.set_1 | apply IsS35.set_2 | apply IsS35.set_3 | apply IsS35.set_4 | refine IsS35.far ?_ NB171_207.out (by repeat (first | exact TypeAt.mk BK207.out | apply TypeAt.set | apply TypeAt.alloc | apply TypeAt.drewN | apply TypeAt.drew)) (by decide) _) | exact HI171.out))
                  (case side2 => repeat (first | (with_reducible first | exact HB.out | apply below_alloc | apply pw_below_drewN | apply below_drew1 | refine below_set ?_ (IsS35.ge HI171.out) | refine below_set ?_ (IsS35.ge HI180.out) | refine below_set ?_ GE207.out) | exact HB.out))
                  rintro e w38 ⟨rfl, hi, hb, hk⟩
                  refine ⟨_, rfl, ?_⟩
                  have n0_ := Aside0.mk (Kd.R_mono (Kd.R_keep (IsS35.apart (show IsS35 w _ g171 t202 t203 t204 t205 t206 from by repeat (first | (with_reducible first | exact HI171.out | apply IsS35.alloc | apply IsS35.drewN | apply IsS35.drew | apply IsS35.set_0 | apply IsS35.set_1 | apply IsS35.set_2 | apply IsS35.set_3 | apply IsS35.set_4 | refine IsS35.far ?_ NB171_207.out (by repeat (first | exact TypeAt.mk BK207.out | apply TypeAt.set | apply TypeAt.alloc | apply TypeAt.drewN | apply TypeAt.drew)) (by decide) _) | exact HI171.out)) (by (with_reducible repeat (first | apply Kd.R_alloc | apply Kd.R_drewN | apply Kd.R_drew)); exact HO165.out) (by decide)) hk (fun _ h => h.2)) (fun _ h => h.1))
                  have n1_ := Aside0.mk (Kd.R_mono (Kd.R_keep (IsS35.apart (show IsS35 w _ g171 t202 t203 t204 t205 t206 from by repeat (first | (with_reducible first | exact HI171.out | apply IsS35.alloc | apply IsS35.drewN | apply IsS35.drew | apply IsS35.set_0 | apply IsS35.set_1 | apply IsS35.set_2 | apply IsS35.set_3 | apply IsS35.set_4 | refine IsS35.far ?_ NB171_207.out (by repeat (first | exact TypeAt.mk BK207.out | apply TypeAt.set | apply TypeAt.alloc | apply TypeAt.drewN | apply TypeAt.drew)) (by decide) _) | exact HI171.out)) (by (with_reducible repeat (first | apply Kd.R_alloc | apply Kd.R_drewN | apply Kd.R_drew)); exact HO174.out) (by decide)) hk (fun _ h => h.2)) (fun _ h => h.1))
                  have n2_ := Aside0.mk ((IsS35.keepS (show IsS35 w _ g180 t209 t210 t211 t212 t213 from by repeat (first | (with_reducible first | exact HI180.out | apply IsS35.alloc | apply IsS35.drewN | apply IsS35.drew | apply IsS35.set_0 | apply IsS35.set_1 | apply IsS35.set_2 | apply IsS35.set_3 | apply IsS35.set_4 | refine IsS35.far ?_ NB180_207.out (by repeat (first | exact TypeAt.mk BK207.out | apply TypeAt.set | apply TypeAt.alloc | apply TypeAt.drewN | apply TypeAt.drew)) (by decide) _) | exact HI180.out)) hk NB180_171.out (IsS35.cells (show IsS35 w _ g171 t202 t203 t204 t205 t206 from by repeat (first | (with_reducible first | exact HI171.out | apply IsS35.alloc | apply IsS35.drewN | apply IsS35.drew | apply IsS35.set_0 | apply IsS35.set_1 | apply IsS35.set_2 | apply IsS35.set_3 | apply IsS35.set_4 | refine IsS35.far ?_ NB171_207.out (by repeat (first | exact TypeAt.mk BK207.out | apply TypeAt.set | apply TypeAt.alloc | apply TypeAt.drewN | apply TypeAt.drew)) (by decide) _) | exact HI171.out)))))
                  have n3_ := Aside0.mk (KeepBut.blk hk (g' := gb207) (o := .cells #[.int .i64 t199, .int .i64 t200, .int .i64 t201] 31 (0, 0)) (by (with_reducible repeat (first | refine blk_drewN ?_ _ | refine blk_drew ?_ | refine blk_alloc ?_ _)); exact BK207.out) NB207_171.out (by simp))
                  have n4_ := Aside0.mk (hb)
                  have n5_ := Aside0.mk (hi)
                  clear HO165
                  clear HO174
                  clear HI180
                  clear BK207
                  clear HB
                  clear HI171
                  have HO165 := n0_
                  have HO174 := n1_
                  have HI180 := n2_
                  have BK207 := n3_
                  have HB := n4_
                  have HI171 := n5_
                  clear n0_ n1_ n2_ n3_ n4_ n5_
                  (try clear hb)
                  (try clear hb2)
                  (try clear hk)
                  (try clear hi)
                  refine hK.out _ _ ⟨(blk_cell BK207.out 0).trans rfl, (blk_cell BK207.out 1).trans rfl, (blk_cell BK207.out 2).trans rfl⟩ (fun hHeld => ?_)
                  clear hK K
                  refine norm_ (a' := ?_) ?_ ?_
                  rotate_left
                  · show Act.put _ (some 49) _ = _
                    simp only [Act.put, List.setIfInBounds_toArray, List.set_cons_zero, List.set_cons_succ, i64_w, i32_w]
                    rfl
                  refine pure_ (i := 20) (N := some 50) (v := ?_) (a' := ?_) #[true, true, true, true, true, true, true, true, true, true, true, true, true, true, true, true, true, true, true, true, true, false, false, false, false, false, false, false, false, false, false, false, false, false, false, false, false, false, false, false, false, false, false, false, false, false] rfl rfl (any_of HT_.out (by kernel_rfl)) (fun _ _ _ h => h) (Or.inl ⟨by rfl, ?_⟩) ?_ ?_
                  rotate_left
                  · intro w'
                    go_simp
                    with_reducible rfl
                  rotate_left
                  · simp only [Act.put, List.setIfInBounds_toArray, List.set_cons_zero, List.set_cons_succ, i64_w, i32_w]
                    rfl
                  refine pure_ (i := 21) (N := some 51) (v := ?_) (a' := ?_) #[true, true, true, true, true, true, true, true, true, true, true, true, true, true, true, true, true, true, true, true, true, true, false, false, false, false, false, false, false, false, false, false, false, false, false, false, false, false, false, false, false, false, false, false, false, false] rfl rfl (any_of HT_.out (by kernel_rfl)) (fun _ _ _ h => h) (Or.inl ⟨by rfl, ?_⟩) ?_ ?_
                  rotate_left
                  · intro w'
                    go_simp
                    with_reducible rfl
                  rotate_left
                  · simp only [Act.put, List.setIfInBounds_toArray, List.set_cons_zero, List.set_cons_succ, i64_w, i32_w]
                    rfl
                  refine pure_ (i := 22) (N := some 52) (v := ?_) (a' := ?_) #[true, true, true, true, true, true, true, true, true, true, true, true, true, true, true, true, true, true, true, true, true, true, true, false, false, false, false, false, false, false, false, false, false, false, false, false, false, false, false, false, false, false, false, false, false, false] rfl rfl (any_of HT_.out (by kernel_rfl)) (fun _ _ _ h => h) (Or.inl ⟨by rfl, ?_⟩) ?_ ?_
                  rotate_left
                  · intro w'
                    go_simp
                    with_reducible rfl
                  rotate_left
                  · simp only [Act.put, List.setIfInBounds_toArray, List.set_cons_zero, List.set_cons_succ, i64_w, i32_w]
                    rfl
                  refine pure_ (i := 23) (N := some 53) (v := ?_) (a' := ?_) #[true, true, true, true, true, true, true, true, true, true, true, true, true, true, true, true, true, true, true, true, true, true, true, true, false, false, false, false, false, false, false, false, false, false, false, false, false, false, false, false, false, false, false, false, false, false] rfl rfl (any_of HT_.out (by kernel_rfl)) (fun _ _ _ h => h) (Or.inl ⟨by rfl, ?_⟩) ?_ ?_
                  rotate_left
                  · intro w'
                    go_simp
                    with_reducible rfl
                  rotate_left
                  · simp only [Act.put, List.setIfInBounds_toArray, List.set_cons_zero, List.set_cons_succ, i64_w, i32_w]
                    rfl
                  refine one_ (i := 24) (N := some 54) #[true, true, true, true, true, true, true, true, true, true, true, true, true, true, true, true, true, true, true, true, true, true, true, true, true, false, false, false, false, false, false, false, false, false, false, false, false, false, false, false, false, false, false, false, false, false] rfl rfl (one_of HT_.out (by kernel_rfl)) (by decide) (fun K hK => ?_)
                  refine goes_ Try.func10 (by kernel_rfl) rfl #[.pointer (some ⟨g171, 0, none⟩)] (by rfl) rfl rfl (by (try simp only [List.map_toArray, List.map_cons, List.map_nil]); first | done | rfl | (simp only [List.length_drop, List.length_take]; rfl)) ?_
                  with_reducible refine (cursor_Cursor_Left.calls g171 t215 t216 t217 t218 t219 t220 t221 t222 t223 t224 t225 w _ ?side1 ?side2 A14.out).mono ?_
                  (case side1 => repeat (first | (with_reducible first | exact HI171.out | apply IsS35.alloc | apply IsS35.drewN | apply IsS35.drew | apply IsS35.set_0 | apply IsS35.set_1 | apply IsS35.set_2 | apply IsS35.set_3 | apply IsS35.set_4 | refine IsS35.far ?_ NB171_207.out (by repeat (first | exact TypeAt.mk BK207.out | apply TypeAt.set | apply TypeAt.alloc | apply TypeAt.drewN | apply TypeAt.drew)) (by decide) _) | exact HI171.out))
                  (case side2 => repeat (first | (with_reducible first | exact HB.out | apply below_alloc | apply pw_below_drewN | apply below_drew1 | refine below_set ?_ (IsS35.ge HI171.out) | refine below_set ?_ (IsS35.ge HI180.out) | refine below_set ?_ GE207.out) | exact HB.out))
                  rintro e w39 ⟨rfl, hi, hb, hk⟩
                  refine ⟨_, rfl, ?_⟩
                  have n0_ := Aside0.mk (Kd.R_mono (Kd.R_keep (IsS35.apart (show IsS35 w _ g171 t215 t216 t217 t218 t219 from by repeat (first | (with_reducible first | exact HI171.out | apply IsS35.alloc | apply IsS35.drewN | apply IsS35.drew | apply IsS35.set_0 | apply IsS35.set_1 | apply IsS35.set_2 | apply IsS35.set_3 | apply IsS35.set_4 | refine IsS35.far ?_ NB171_207.out (by repeat (first | exact TypeAt.mk BK207.out | apply TypeAt.set | apply TypeAt.alloc | apply TypeAt.drewN | apply TypeAt.drew)) (by decide) _) | exact HI171.out)) (by (with_reducible repeat (first | apply Kd.R_alloc | apply Kd.R_drewN | apply Kd.R_drew)); exact HO165.out) (by decide)) hk (fun _ h => h.2)) (fun _ h => h.1))
                  have n1_ := Aside0.mk (Kd.R_mono (Kd.R_keep (IsS35.apart (show IsS35 w _ g171 t215 t216 t217 t218 t219 from by repeat (first | (with_reducible first | exact HI171.out | apply IsS35.alloc | apply IsS35.drewN | apply IsS35.drew | apply IsS35.set_0 | apply IsS35.set_1 | apply IsS35.set_2 | apply IsS35.set_3 | apply IsS35.set_4 | refine IsS35.far ?_ NB171_207.out (by repeat (first | exact TypeAt.mk BK207.out | apply TypeAt.set | apply TypeAt.alloc | apply TypeAt.drewN | apply TypeAt.drew)) (by decide) _) | exact HI171.out)) (by (with_reducible repeat (first | apply Kd.R_alloc | apply Kd.R_drewN | apply Kd.R_drew)); exact HO174.out) (by decide)) hk (fun _ h => h.2)) (fun _ h => h.1))
                  have n2_ := Aside0.mk ((IsS35.keepS (show IsS35 w _ g180 t209 t210 t211 t212 t213 from by repeat (first | (with_reducible first | exact HI180.out | apply IsS35.alloc | apply IsS35.drewN | apply IsS35.drew | apply IsS35.set_0 | apply IsS35.set_1 | apply IsS35.set_2 | apply IsS35.set_3 | apply IsS35.set_4 | refine IsS35.far ?_ NB180_207.out (by repeat (first | exact TypeAt.mk BK207.out | apply TypeAt.set | apply TypeAt.alloc | apply TypeAt.drewN | apply TypeAt.drew)) (by decide) _) | exact HI180.out)) hk NB180_171.out (IsS35.cells (show IsS35 w _ g171 t215 t216 t217 t218 t219 from by repeat (first | (with_reducible first | exact HI171.out | apply IsS35.alloc | apply IsS35.drewN | apply IsS35.drew | apply IsS35.set_0 | apply IsS35.set_1 | apply IsS35.set_2 | apply IsS35.set_3 | apply IsS35.set_4 | refine IsS35.far ?_ NB171_207.out (by repeat (first | exact TypeAt.mk BK207.out | apply TypeAt.set | apply TypeAt.alloc | apply TypeAt.drewN | apply TypeAt.drew)) (by decide) _) | exact HI171.out)))))
                  have n3_ := Aside0.mk (KeepBut.blk hk (g' := gb207) (o := .cells #[.int .i64 t199, .int .i64 t200, .int .i64 t201] 31 (0, 0)) (by (with_reducible repeat (first | refine blk_drewN ?_ _ | refine blk_drew ?_ | refine blk_alloc ?_ _)); exact BK207.out) NB207_171.out (by simp))
                  have n4_ := Aside0.mk (hb)
                  have n5_ := Aside0.mk (hi)
                  clear HO165
                  clear HO174
                  clear HI180
                  clear BK207
                  clear HB
                  clear HI171
                  have HO165 := n0_
                  have HO174 := n1_
                  have HI180 := n2_
                  have BK207 := n3_
                  have HB := n4_
                  have HI171 := n5_
                  clear n0_ n1_ n2_ n3_ n4_ n5_
                  (try clear hb)
                  (try clear hb2)
                  (try clear hk)
                  (try clear hi)
                  refine hK.out _ _ ⟨(blk_cell BK207.out 0).trans rfl, (blk_cell BK207.out 1).trans rfl, (blk_cell BK207.out 2).trans rfl⟩ (fun hHeld => ?_)
                  clear hK K
                  refine norm_ (a' := ?_) ?_ ?_
                  rotate_left
                  · show Act.put _ (some 54) _ = _
                    simp only [Act.put, List.setIfInBounds_toArray, List.set_cons_zero, List.set_cons_succ, i64_w, i32_w]
                    rfl
                  refine pure_ (i := 25) (N := some 55) (v := ?_) (a' := ?_) #[true, true, true, true, true, true, true, true, true, true, true, true, true, true, true, true, true, true, true, true, true, true, true, true, true, true, false, false, false, false, false, false, false, false, false, false, false, false, false, false, false, false, false, false, false, false] rfl rfl (any_of HT_.out (by kernel_rfl)) (fun _ _ _ h => h) (Or.inl ⟨by rfl, ?_⟩) ?_ ?_
                  rotate_left
                  · intro w'
                    go_simp
                    with_reducible rfl
                  rotate_left
                  · simp only [Act.put, List.setIfInBounds_toArray, List.set_cons_zero, List.set_cons_succ, i64_w, i32_w]
                    rfl
                  refine pure_ (i := 26) (N := some 56) (v := ?_) (a' := ?_) #[true, true, true, true, true, true, true, true, true, true, true, true, true, true, true, true, true, true, true, true, true, true, true, true, true, true, true, false, false, false, false, false, false, false, false, false, false, false, false, false, false, false, false, false, false, false] rfl rfl (any_of HT_.out (by kernel_rfl)) (fun _ _ _ h => h) (Or.inl ⟨by rfl, ?_⟩) ?_ ?_
                  rotate_left
                  · intro w'
                    go_simp
                    with_reducible rfl
                  rotate_left
                  · simp only [Act.put, List.setIfInBounds_toArray, List.set_cons_zero, List.set_cons_succ, i64_w, i32_w]
                    rfl
                  refine pure_ (i := 27) (N := some 57) (v := ?_) (a' := ?_) #[true, true, true, true, true, true, true, true, true, true, true, true, true, true, true, true, true, true, true, true, true, true, true, true, true, true, true, true, false, false, false, false, false, false, false, false, false, false, false, false, false, false, false, false, false, false] rfl rfl (any_of HT_.out (by kernel_rfl)) (fun _ _ _ h => h) (Or.inl ⟨by rfl, ?_⟩) ?_ ?_
                  rotate_left
                  · intro w'
                    go_simp
                    with_reducible rfl
                  rotate_left
                  · simp only [Act.put, List.setIfInBounds_toArray, List.set_cons_zero, List.set_cons_succ, i64_w, i32_w]
                    rfl
                  refine pure_ (i := 28) (N := some 58) (v := ?_) (a' := ?_) #[true, true, true, true, true, true, true, true, true, true, true, true, true, true, true, true, true, true, true, true, true, true, true, true, true, true, true, true, true, false, false, false, false, false, false, false, false, false, false, false, false, false, false, false, false, false] rfl rfl (any_of HT_.out (by kernel_rfl)) (fun _ _ _ h => h) (Or.inl ⟨by rfl, ?_⟩) ?_ ?_
                  rotate_left
                  · intro w'
                    go_simp
                    with_reducible rfl
                  rotate_left
                  · simp only [Act.put, List.setIfInBounds_toArray, List.set_cons_zero, List.set_cons_succ, i64_w, i32_w]
                    rfl
                  refine take_ (i := 30) (N := some 60) (v := ?_) (a' := ?_) #[true, true, true, true, true, true, true, true, true, true, true, true, true, true, true, true, true, true, true, true, true, true, true, true, true, true, true, true, true, false, true, false, false, false, false, false, false, false, false, false, false, false, false, false, false, false] rfl rfl (take_ofW HT_.out HW_.out (by kernel_rfl)) (fun _ _ _ h => h) (Or.inl ⟨by rfl, ?_⟩) hHeld ?_ ?_
                  rotate_left
                  · rintro w' ⟨s0, s1, s2⟩
                    go_simp
                    with_reducible rfl
                  rotate_left
                  · simp only [Act.put, List.setIfInBounds_toArray, List.set_cons_zero, List.set_cons_succ, i64_w, i32_w]
                    rfl
                  refine one_ (i := 29) (N := some 59) #[true, true, true, true, true, true, true, true, true, true, true, true, true, true, true, true, true, true, true, true, true, true, true, true, true, true, true, true, true, true, true, false, false, false, false, false, false, false, false, false, false, false, false, false, false, false] rfl rfl (one_of HT_.out (by kernel_rfl)) (by decide) (fun K hK => ?_)
                  refine goes_ Try.func27 (by kernel_rfl) rfl #[.pointer (some ⟨g171, 0, none⟩)] (by rfl) rfl rfl (by (try simp only [List.map_toArray, List.map_cons, List.map_nil]); first | done | rfl | (simp only [List.length_drop, List.length_take]; rfl)) ?_
                  with_reducible refine (cursor_Cursor_End.calls g171 t221 t222 t223 t224 t225 t226 t227 t228 t229 t230 t231 t232 t233 w _ ?side1 ?side2 A16.out).mono ?_
                  (case side1 => repeat (first | (with_reducible first | exact HI171.out | apply IsS35.alloc | apply IsS35.drewN | apply IsS35.drew | apply IsS35.set_0 | apply IsS35.set_1 | apply IsS35.set_2 | apply IsS35.set_3 | apply IsS35.set_4 | refine IsS35.far ?_ NB171_207.out (by repeat (first | exact TypeAt.mk BK207.out | apply TypeAt.set | apply TypeAt.alloc | apply TypeAt.drewN | apply TypeAt.drew)) (by decide) _) | exact HI171.out))
                  (case side2 => repeat (first | (with_reducible first | exact HB.out | apply below_alloc | apply pw_below_drewN | apply below_drew1 | refine below_set ?_ (IsS35.ge HI171.out) | refine below_set ?_ (IsS35.ge HI180.out) | refine below_set ?_ GE207.out) | exact HB.out))
                  rintro e w40 ⟨rfl, hi, hb, hk⟩
                  refine ⟨_, rfl, ?_⟩
                  have n0_ := Aside0.mk (Kd.R_mono (Kd.R_keep (IsS35.apart (show IsS35 w _ g171 t221 t222 t223 t224 t225 from by repeat (first | (with_reducible first | exact HI171.out | apply IsS35.alloc | apply IsS35.drewN | apply IsS35.drew | apply IsS35.set_0 | apply IsS35.set_1 | apply IsS35.set_2 | apply IsS35.set_3 | apply IsS35.set_4 | refine IsS35.far ?_ NB171_207.out (by repeat (first | exact TypeAt.mk BK207.out | apply TypeAt.set | apply TypeAt.alloc | apply TypeAt.drewN | apply TypeAt.drew)) (by decide) _) | exact HI171.out)) (by (with_reducible repeat (first | apply Kd.R_alloc | apply Kd.R_drewN | apply Kd.R_drew)); exact HO165.out) (by decide)) hk (fun _ h => h.2)) (fun _ h => h.1))
                  have n1_ := Aside0.mk (Kd.R_mono (Kd.R_keep (IsS35.apart (show IsS35 w _ g171 t221 t222 t223 t224 t225 from by repeat (first | (with_reducible first | exact HI171.out | apply IsS35.alloc | apply IsS35.drewN | apply IsS35.drew | apply IsS35.set_0 | apply IsS35.set_1 | apply IsS35.set_2 | apply IsS35.set_3 | apply IsS35.set_4 | refine IsS35.far ?_ NB171_207.out (by repeat (first | exact TypeAt.mk BK207.out | apply TypeAt.set | apply TypeAt.alloc | apply TypeAt.drewN | apply TypeAt.drew)) (by decide) _) | exact HI171.out)) (by (with_reducible repeat (first | apply Kd.R_alloc | apply Kd.R_drewN | apply Kd.R_drew)); exact HO174.out) (by decide)) hk (fun _ h => h.2)) (fun _ h => h.1))
                  have n2_ := Aside0.mk ((IsS35.keepS (show IsS35 w _ g180 t209 t210 t211 t212 t213 from by repeat (first | (with_reducible first | exact HI180.out | apply IsS35.alloc | apply IsS35.drewN | apply IsS35.drew | apply IsS35.set_0 | apply IsS35.set_1 | apply IsS35.set_2 | apply IsS35.set_3 | apply IsS35.set_4 | refine IsS35.far ?_ NB180_207.out (by repeat (first | exact TypeAt.mk BK207.out | apply TypeAt.set | apply TypeAt.alloc | apply TypeAt.drewN | apply TypeAt.drew)) (by decide) _) | exact HI180.out)) hk NB180_171.out (IsS35.cells (show IsS35 w _ g171 t221 t222 t223 t224 t225 from by repeat (first | (with_reducible first | exact HI171.out | apply IsS35.alloc | apply IsS35.drewN | apply IsS35.drew | apply IsS35.set_0 | apply IsS35.set_1 | apply IsS35.set_2 | apply IsS35.set_3 | apply IsS35.set_4 | refine IsS35.far ?_ NB171_207.out (by repeat (first | exact TypeAt.mk BK207.out | apply TypeAt.set | apply TypeAt.alloc | apply TypeAt.drewN | apply TypeAt.drew)) (by decide) _) | exact HI171.out)))))
                  have n3_ := Aside0.mk (KeepBut.blk hk (g' := gb207) (o := .cells #[.int .i64 t199, .int .i64 t200, .int .i64 t201] 31 (0, 0)) (by (with_reducible repeat (first | refine blk_drewN ?_ _ | refine blk_drew ?_ | refine blk_alloc ?_ _)); exact BK207.out) NB207_171.out (by simp))
                  have n4_ := Aside0.mk (hb)
                  have n5_ := Aside0.mk (hi)
                  clear HO165
                  clear HO174
                  clear HI180
                  clear BK207
                  clear HB
                  clear HI171
                  have HO165 := n0_
                  have HO174 := n1_
                  have HI180 := n2_
                  have BK207 := n3_
                  have HB := n4_
                  have HI171 := n5_
                  clear n0_ n1_ n2_ n3_ n4_ n5_
                  (try clear hb)
                  (try clear hb2)
                  (try clear hk)
                  (try clear hi)
                  refine hK.out _ _ ⟨(blk_cell BK207.out 0).trans rfl, (blk_cell BK207.out 1).trans rfl, (blk_cell BK207.out 2).trans rfl⟩ (fun hHeld => ?_)
                  clear hK K
                  refine norm_ (a' := ?_) ?_ ?_
                  rotate_left
                  · show Act.put _ (some 59) _ = _
                    simp only [Act.put, List.setIfInBounds_toArray, List.set_cons_zero, List.set_cons_succ, i64_w, i32_w]
                    rfl
                  refine pure_ (i := 31) (N := some 61) (v := ?_) (a' := ?_) #[true, true, true, true, true, true, true, true, true, true, true, true, true, true, true, true, true, true, true, true, true, true, true, true, true, true, true, true, true, true, true, true, false, false, false, false, false, false, false, false, false, false, false, false, false, false] rfl rfl (any_of HT_.out (by kernel_rfl)) (fun _ _ _ h => h) (Or.inl ⟨by rfl, ?_⟩) ?_ ?_
                  rotate_left
                  · intro w'
                    go_simp
                    with_reducible rfl
                  rotate_left
                  · simp only [Act.put, List.setIfInBounds_toArray, List.set_cons_zero, List.set_cons_succ, i64_w, i32_w]
                    rfl
                  refine pure_ (i := 32) (N := some 62) (v := ?_) (a' := ?_) #[true, true, true, true, true, true, true, true, true, true, true, true, true, true, true, true, true, true, true, true, true, true, true, true, true, true, true, true, true, true, true, true, true, false, false, false, false, false, false, false, false, false, false, false, false, false] rfl rfl (any_of HT_.out (by kernel_rfl)) (fun _ _ _ h => h) (Or.inl ⟨by rfl, ?_⟩) ?_ ?_
                  rotate_left
                  · intro w'
                    go_simp
                    with_reducible rfl
                  rotate_left
                  · simp only [Act.put, List.setIfInBounds_toArray, List.set_cons_zero, List.set_cons_succ, i64_w, i32_w]
                    rfl
                  refine pure_ (i := 33) (N := some 63) (v := ?_) (a' := ?_) #[true, true, true, true, true, true, true, true, true, true, true, true, true, true, true, true, true, true, true, true, true, true, true, true, true, true, true, true, true, true, true, true, true, true, false, false, false, false, false, false, false, false, false, false, false, false] rfl rfl (any_of HT_.out (by kernel_rfl)) (fun _ _ _ h => h) (Or.inl ⟨by rfl, ?_⟩) ?_ ?_
                  rotate_left
                  · intro w'
                    go_simp
                    with_reducible rfl
                  rotate_left
                  · simp only [Act.put, List.setIfInBounds_toArray, List.set_cons_zero, List.set_cons_succ, i64_w, i32_w]
                    rfl
                  refine pure_ (i := 34) (N := some 64) (v := ?_) (a' := ?_) #[true, true, true, true, true, true, true, true, true, true, true, true, true, true, true, true, true, true, true, true, true, true, true, true, true, true, true, true, true, true, true, true, true, true, true, false, false, false, false, false, false, false, false, false, false, false] rfl rfl (any_of HT_.out (by kernel_rfl)) (fun _ _ _ h => h) (Or.inl ⟨by rfl, ?_⟩) ?_ ?_
                  rotate_left
                  · intro w'
                    go_simp
                    with_reducible rfl
                  rotate_left
                  · simp only [Act.put, List.setIfInBounds_toArray, List.set_cons_zero, List.set_cons_succ, i64_w, i32_w]
                    rfl
                  refine pure_ (i := 35) (N := some 65) (v := ?_) (a' := ?_) #[true, true, true, true, true, true, true, true, true, true, true, true, true, true, true, true, true, true, true, true, true, true, true, true, true, true, true, true, true, true, true, true, true, true, true, true, false, false, false, false, false, false, false, false, false, false] rfl rfl (any_of HT_.out (by kernel_rfl)) (fun _ _ _ h => h) (Or.inl ⟨by rfl, ?_⟩) ?_ ?_
                  rotate_left
                  · intro w'
                    go_simp
                    with_reducible rfl
                  rotate_left
                  · simp only [Act.put, List.setIfInBounds_toArray, List.set_cons_zero, List.set_cons_succ, i64_w, i32_w]
                    rfl
                  refine pure_ (i := 36) (N := some 66) (v := ?_) (a' := ?_) #[true, true, true, true, true, true, true, true, true, true, true, true, true, true, true, true, true, true, true, true, true, true, true, true, true, true, true, true, true, true, true, true, true, true, true, true, true, false, false, false, false, false, false, false, false, false] rfl rfl (any_of HT_.out (by kernel_rfl)) (fun _ _ _ h => h) (Or.inl ⟨by rfl, ?_⟩) ?_ ?_
                  rotate_left
                  · intro w'
                    go_simp
                    with_reducible rfl
                  rotate_left
                  · simp only [Act.put, List.setIfInBounds_toArray, List.set_cons_zero, List.set_cons_succ, i64_w, i32_w]
                    rfl
                  refine pure_ (i := 37) (N := some 67) (v := ?_) (a' := ?_) #[true, true, true, true, true, true, true, true, true, true, true, true, true, true, true, true, true, true, true, true, true, true, true, true, true, true, true, true, true, true, true, true, true, true, true, true, true, true, false, false, false, false, false, false, false, false] rfl rfl (any_of HT_.out (by kernel_rfl)) (fun _ _ _ h => h) (Or.inl ⟨by rfl, ?_⟩) ?_ ?_
                  rotate_left
                  · intro w'
                    go_simp
                    with_reducible rfl
                  rotate_left
                  · simp only [Act.put, List.setIfInBounds_toArray, List.set_cons_zero, List.set_cons_succ, i64_w, i32_w]
                    rfl
                  refine pure_ (i := 38) (N := some 68) (v := ?_) (a' := ?_) #[true, true, true, true, true, true, true, true, true, true, true, true, true, true, true, true, true, true, true, true, true, true, true, true, true, true, true, true, true, true, true, true, true, true, true, true, true, true, true, false, false, false, false, false, false, false] rfl rfl (any_of HT_.out (by kernel_rfl)) (fun _ _ _ h => h) (Or.inl ⟨by rfl, ?_⟩) ?_ ?_
                  rotate_left
                  · intro w'
                    go_simp
                    with_reducible rfl
                  rotate_left
                  · simp only [Act.put, List.setIfInBounds_toArray, List.set_cons_zero, List.set_cons_succ, i64_w, i32_w]
                    rfl
                  refine pure_ (i := 39) (N := some 69) (v := ?_) (a' := ?_) #[true, true, true, true, true, true, true, true, true, true, true, true, true, true, true, true, true, true, true, true, true, true, true, true, true, true, true, true, true, true, true, true, true, true, true, true, true, true, true, true, false, false, false, false, false, false] rfl rfl (any_of HT_.out (by kernel_rfl)) (fun _ _ _ h => h) (Or.inl ⟨by rfl, ?_⟩) ?_ ?_
                  rotate_left
                  · intro w'
                    go_simp
                    with_reducible rfl
                  rotate_left
                  · simp only [Act.put, List.setIfInBounds_toArray, List.set_cons_zero, List.set_cons_succ, i64_w, i32_w]
                    rfl
                  refine pure_ (i := 40) (N := some 70) (v := ?_) (a' := ?_) #[true, true, true, true, true, true, true, true, true, true, true, true, true, true, true, true, true, true, true, true, true, true, true, true, true, true, true, true, true, true, true, true, true, true, true, true, true, true, true, true, true, false, false, false, false, false] rfl rfl (any_of HT_.out (by kernel_rfl)) (fun _ _ _ h => h) (Or.inl ⟨by rfl, ?_⟩) ?_ ?_
                  rotate_left
                  · intro w'
                    go_simp
                    with_reducible rfl
                  rotate_left
                  · simp only [Act.put, List.setIfInBounds_toArray, List.set_cons_zero, List.set_cons_succ, i64_w, i32_w]
                    rfl
                  refine pure_ (i := 42) (N := some 72) (v := ?_) (a' := ?_) #[true, true, true, true, true, true, true, true, true, true, true, true, true, true, true, true, true, true, true, true, true, true, true, true, true, true, true, true, true, true, true, true, true, true, true, true, true, true, true, true, true, false, true, false, false, false] rfl rfl (any_of HT_.out (by kernel_rfl)) (fun _ _ _ h => h) (Or.inl ⟨by rfl, ?_⟩) ?_ ?_
                  rotate_left
                  · intro w'
                    go_simp
                    with_reducible rfl
                  rotate_left
                  · simp only [Act.put, List.setIfInBounds_toArray, List.set_cons_zero, List.set_cons_succ, i64_w, i32_w]
                    rfl
                  refine one_ (i := 41) (N := some 71) #[true, true, true, true, true, true, true, true, true, true, true, true, true, true, true, true, true, true, true, true, true, true, true, true, true, true, true, true, true, true, true, true, true, true, true, true, true, true, true, true, true, true, true, false, false, false] rfl rfl (one_of HT_.out (by kernel_rfl)) (by decide) (fun K hK => ?_)
                  refine goes_ Try.func13 (by kernel_rfl) rfl #[.pointer (some ⟨g180, 0, none⟩)] (by rfl) rfl rfl (by (try simp only [List.map_toArray, List.map_cons, List.map_nil]); first | done | rfl | (simp only [List.length_drop, List.length_take]; rfl)) ?_
                  with_reducible refine (cursor_place_Fault.calls g180 t209 t210 t211 t212 t213 t234 t235 t236 t237 t238 t239 t240 t241 w _ ?side1 ?side2 A19.out).mono ?_
                  (case side1 => repeat (first | (with_reducible first | exact HI180.out | apply IsS35.alloc | apply IsS35.drewN | apply IsS35.drew | apply IsS35.set_0 | apply IsS35.set_1 | apply IsS35.set_2 | apply IsS35.set_3 | apply IsS35.set_4 | refine IsS35.far ?_ NB180_207.out (by repeat (first | exact TypeAt.mk BK207.out | apply TypeAt.set | apply TypeAt.alloc | apply TypeAt.drewN | apply TypeAt.drew)) (by decide) _) | exact HI180.out))
                  (case side2 => repeat (first | (with_reducible first | exact HB.out | apply below_alloc | apply pw_below_drewN | apply below_drew1 | refine below_set ?_ (IsS35.ge HI171.out) | refine below_set ?_ (IsS35.ge HI180.out) | refine below_set ?_ GE207.out) | exact HB.out))
                  rintro e w41 ⟨rfl, hi, hb, hk⟩
                  refine ⟨_, rfl, ?_⟩
                  have n0_ := Aside0.mk (Kd.R_mono (Kd.R_keep (IsS35.apart (show IsS35 w _ g180 t209 t210 t211 t212 t213 from by repeat (first | (with_reducible first | exact HI180.out | apply IsS35.alloc | apply IsS35.drewN | apply IsS35.drew | apply IsS35.set_0 | apply IsS35.set_1 | apply IsS35.set_2 | apply IsS35.set_3 | apply IsS35.set_4 | refine IsS35.far ?_ NB180_207.out (by repeat (first | exact TypeAt.mk BK207.out | apply TypeAt.set | apply TypeAt.alloc | apply TypeAt.drewN | apply TypeAt.drew)) (by decide) _) | exact HI180.out)) (by (with_reducible repeat (first | apply Kd.R_alloc | apply Kd.R_drewN | apply Kd.R_drew)); exact HO165.out) (by decide)) hk (fun _ h => h.2)) (fun _ h => h.1))
                  have n1_ := Aside0.mk ((IsS35.keepS (show IsS35 w _ g171 t229 t230 t231 t232 t233 from by repeat (first | (with_reducible first | exact HI171.out | apply IsS35.alloc | apply IsS35.drewN | apply IsS35.drew | apply IsS35.set_0 | apply IsS35.set_1 | apply IsS35.set_2 | apply IsS35.set_3 | apply IsS35.set_4 | refine IsS35.far ?_ NB171_207.out (by repeat (first | exact TypeAt.mk BK207.out | apply TypeAt.set | apply TypeAt.alloc | apply TypeAt.drewN | apply TypeAt.drew)) (by decide) _) | exact HI171.out)) hk NB171_180.out (IsS35.cells (show IsS35 w _ g180 t209 t210 t211 t212 t213 from by repeat (first | (with_reducible first | exact HI180.out | apply IsS35.alloc | apply IsS35.drewN | apply IsS35.drew | apply IsS35.set_0 | apply IsS35.set_1 | apply IsS35.set_2 | apply IsS35.set_3 | apply IsS35.set_4 | refine IsS35.far ?_ NB180_207.out (by repeat (first | exact TypeAt.mk BK207.out | apply TypeAt.set | apply TypeAt.alloc | apply TypeAt.drewN | apply TypeAt.drew)) (by decide) _) | exact HI180.out)))))
                  have n2_ := Aside0.mk (Kd.R_mono (Kd.R_keep (IsS35.apart (show IsS35 w _ g180 t209 t210 t211 t212 t213 from by repeat (first | (with_reducible first | exact HI180.out | apply IsS35.alloc | apply IsS35.drewN | apply IsS35.drew | apply IsS35.set_0 | apply IsS35.set_1 | apply IsS35.set_2 | apply IsS35.set_3 | apply IsS35.set_4 | refine IsS35.far ?_ NB180_207.out (by repeat (first | exact TypeAt.mk BK207.out | apply TypeAt.set | apply TypeAt.alloc | apply TypeAt.drewN | apply TypeAt.drew)) (by decide) _) | exact HI180.out)) (by (with_reducible repeat (first | apply Kd.R_alloc | apply Kd.R_drewN | apply Kd.R_drew)); exact HO174.out) (by decide)) hk (fun _ h => h.2)) (fun _ h => h.1))
                  have n3_ := Aside0.mk (KeepBut.blk hk (g' := gb207) (o := .cells #[.int .i64 t199, .int .i64 t200, .int .i64 t201] 31 (0, 0)) (by (with_reducible repeat (first | refine blk_drewN ?_ _ | refine blk_drew ?_ | refine blk_alloc ?_ _)); exact BK207.out) NB207_180.out (by simp))
                  have n4_ := Aside0.mk (hb)
                  have n5_ := Aside0.mk (hi)
                  clear HO165
                  clear HI171
                  clear HO174
                  clear BK207
                  clear HB
                  clear HI180
                  have HO165 := n0_
                  have HI171 := n1_
                  have HO174 := n2_
                  have BK207 := n3_
                  have HB := n4_
                  have HI180 := n5_
                  clear n0_ n1_ n2_ n3_ n4_ n5_
                  (try clear hb)
                  (try clear hb2)
                  (try clear hk)
                  (try clear hi)
                  refine hK.out _ _ ⟨(blk_cell BK207.out 0).trans rfl, (blk_cell BK207.out 1).trans rfl, (blk_cell BK207.out 2).trans rfl⟩ (fun hHeld => ?_)
                  clear hK K
                  refine norm_ (a' := ?_) ?_ ?_
                  rotate_left
                  · show Act.put _ (some 71) _ = _
                    simp only [Act.put, List.setIfInBounds_toArray, List.set_cons_zero, List.set_cons_succ, i64_w, i32_w]
                    rfl
                  refine pure_ (i := 43) (N := some 73) (v := ?_) (a' := ?_) #[true, true, true, true, true, true, true, true, true, true, true, true, true, true, true, true, true, true, true, true, true, true, true, true, true, true, true, true, true, true, true, true, true, true, true, true, true, true, true, true, true, true, true, true, false, false] rfl rfl (any_of HT_.out (by kernel_rfl)) (fun _ _ _ h => h) (Or.inl ⟨by rfl, ?_⟩) ?_ ?_
                  rotate_left
                  · intro w'
                    go_simp
                    with_reducible rfl
                  rotate_left
                  · simp only [Act.put, List.setIfInBounds_toArray, List.set_cons_zero, List.set_cons_succ, i64_w, i32_w]
                    rfl
                  refine pure_ (i := 44) (N := some 74) (v := ?_) (a' := ?_) #[true, true, true, true, true, true, true, true, true, true, true, true, true, true, true, true, true, true, true, true, true, true, true, true, true, true, true, true, true, true, true, true, true, true, true, true, true, true, true, true, true, true, true, true, true, false] rfl rfl (any_of HT_.out (by kernel_rfl)) (fun _ _ _ h => h) (Or.inl ⟨by rfl, ?_⟩) ?_ ?_
                  rotate_left
                  · intro w'
                    go_simp
                    with_reducible rfl
                  rotate_left
                  · simp only [Act.put, List.setIfInBounds_toArray, List.set_cons_zero, List.set_cons_succ, i64_w, i32_w]
                    rfl
                  refine pure_ (i := 45) (N := some 0) (v := ?_) (a' := ?_) #[true, true, true, true, true, true, true, true, true, true, true, true, true, true, true, true, true, true, true, true, true, true, true, true, true, true, true, true, true, true, true, true, true, true, true, true, true, true, true, true, true, true, true, true, true, true] rfl rfl (any_of HT_.out (by kernel_rfl)) (fun _ _ _ h => h) (Or.inl ⟨by rfl, ?_⟩) ?_ ?_
                  rotate_left
                  · intro w'
                    go_simp
                    with_reducible rfl
                  rotate_left
                  · simp only [Act.put, List.setIfInBounds_toArray, List.set_cons_zero, List.set_cons_succ, i64_w, i32_w]
                    rfl
                  refine done_ (done_of HT_.out (by kernel_rfl)) ?_
                  try go_wp2
                  go_ret
                  exact ⟨by first | rfl | (simp [errW_none, errW_some] <;> rfl) | (simp [*, errW_none, errW_some] <;> rfl), by repeat (first | (with_reducible first | exact HB.out | apply below_alloc | apply pw_below_drewN | apply below_drew1 | refine below_set ?_ (IsS35.ge HI171.out) | refine below_set ?_ (IsS35.ge HI180.out) | refine below_set ?_ GE207.out) | exact HB.out)⟩
                · rw [if_neg c18] at H
                  exact absurd H (by simp)
              · rw [if_neg c17] at H
                exact absurd H (by simp)
            · rw [if_neg c15] at H
              exact absurd H (by simp)
          · rw [if_neg c13] at H
            exact absurd H (by simp)
        · rw [if_neg c11] at H
          exact absurd H (by simp)
      · rw [if_neg c10] at H
        exact absurd H (by simp)
    · rw [if_neg c9] at H
      exact absurd H (by simp)
  · rw [if_neg c8] at H
    exact absurd H (by simp)

/-- A state of type 55 at block g of W; what its slices lead to came in by w0. -/
def IsS55 (w0 W : World) (g : Nat) (f0 : (List Int)) (f1 : Int) (f2 : Int) (f3 : Int) (f4 : Int) : Prop := (∃ A_ c_, W.heap[g]? = some (.cells #[.slice A_ (f0).length c_, .int .i64 f1, .int .i64 f2, .int .i64 f3, .int .i64 f4] 55 (0, 0)) ∧ f0.length ≤ c_ ∧ RowIn W A_ f0) ∧ w0.heap.size ≤ g
theorem IsS55.cells {w0 W : World} {g : Nat} {f0 : (List Int)} {f1 : Int} {f2 : Int} {f3 : Int} {f4 : Int} (h : IsS55 w0 W g f0 f1 f2 f3 f4) : ∃ t cs fr, t ≠ 5 ∧ W.heap[g]? = some (Obj.cells cs t fr) := by
  obtain ⟨⟨A_, c_, hb, hcap, hr⟩, hg⟩ := h
  exact ⟨55, _, _, by decide, hb⟩
theorem IsS55.keepS {w0 W : World} {g : Nat} {f0 : (List Int)} {f1 : Int} {f2 : Int} {f3 : Int} {f4 : Int} {W' : World} {g' : Nat} (h : IsS55 w0 W g f0 f1 f2 f3 f4) (hk : KeepBut W W' g' none) (hne : g ≠ g') (hc : ∃ t cs fr, t ≠ 5 ∧ W.heap[g']? = some (Obj.cells cs t fr)) : IsS55 w0 W' g f0 f1 f2 f3 f4 := by
  obtain ⟨⟨A_, c_, hb, hcap, hr⟩, hg⟩ := h
  exact ⟨⟨A_, c_, hk.blk hb hne (by simp), hcap, hr.keep hk hc⟩, hg⟩
theorem IsS55.own_neN {w0 W : World} {g : Nat} {f0 : (List Int)} {f1 : Int} {f2 : Int} {f3 : Int} {f4 : Int} {α : Type} {d : Kd α} {e : Nat} {base : Nat} {ok : Nat → Prop} {v : Value} {xs : List α} (h : IsS55 w0 W g f0 f1 f2 f3 f4) (ho : Kd.N d e W base ok v xs) (ht : e ≠ 55) : some g ≠ v.ownBlock := by
  obtain ⟨⟨A_, c_, hb, hcap, hr⟩, hg⟩ := h
  exact Kd.N_ne ho hb ht
theorem IsS55.fresh {w0 W : World} {g : Nat} {f0 : (List Int)} {f1 : Int} {f2 : Int} {f3 : Int} {f4 : Int} (h : IsS55 w0 W g f0 f1 f2 f3 f4) : ∀ k, W.heap.size ≤ k → k ≠ g := by
  obtain ⟨⟨A_, c_, hb, hcap, hr⟩, hg⟩ := h
  exact Kd.freshB hb
theorem IsS55.below {w0 W : World} {g : Nat} {f0 : (List Int)} {f1 : Int} {f2 : Int} {f3 : Int} {f4 : Int} {W1 : World} (h : IsS55 w0 W g f0 f1 f2 f3 f4) (hw : Below W.heap.size W W1) : IsS55 w0 W1 g f0 f1 f2 f3 f4 := by
  obtain ⟨⟨A_, c_, hb, hcap, hr⟩, hg⟩ := h
  exact ⟨⟨A_, c_, blk_below hb hw, hcap, hr.below hw⟩, hg⟩
theorem IsS55.alloc {w0 W : World} {g : Nat} {f0 : (List Int)} {f1 : Int} {f2 : Int} {f3 : Int} {f4 : Int} (h : IsS55 w0 W g f0 f1 f2 f3 f4) (o : Obj) : IsS55 w0 (W.alloc o) g f0 f1 f2 f3 f4 := h.below (below_alloc (Below.refl _ _) o)
theorem IsS55.drewN {w0 W : World} {g : Nat} {f0 : (List Int)} {f1 : Int} {f2 : Int} {f3 : Int} {f4 : Int} (h : IsS55 w0 W g f0 f1 f2 f3 f4) (m : Nat) : IsS55 w0 (W.drewN m) g f0 f1 f2 f3 f4 := h
theorem IsS55.drew {w0 W : World} {g : Nat} {f0 : (List Int)} {f1 : Int} {f2 : Int} {f3 : Int} {f4 : Int} (h : IsS55 w0 W g f0 f1 f2 f3 f4) : IsS55 w0 W.drew g f0 f1 f2 f3 f4 := h
theorem IsS55.at_ {w0 W : World} {g : Nat} {f0 : (List Int)} {f1 : Int} {f2 : Int} {f3 : Int} {f4 : Int} {w' : World} {m : Nat} (hq : W.drewN m = w') (h : IsS55 w0 W g f0 f1 f2 f3 f4) : IsS55 w0 w' g f0 f1 f2 f3 f4 := by subst hq; exact IsS55.drewN h m
theorem IsS55.apart {w0 W : World} {g : Nat} {f0 : (List Int)} {f1 : Int} {f2 : Int} {f3 : Int} {f4 : Int} {α : Type} {d : Kd α} {e : Nat} {base : Nat} {ok : Nat → Prop} {v : Value} {xs : List α} (h : IsS55 w0 W g f0 f1 f2 f3 f4) (ho : d.R e W base ok v xs) (ht : ∀ q, q ∈ e :: d.E → q ≠ 55) : d.R e W base (fun k => ok k ∧ k ≠ g) v xs := by
  obtain ⟨⟨A_, c_, hb, hcap, hr⟩, hg⟩ := h
  exact Kd.R_types ho hb ht
theorem IsS55.own_ne {w0 W : World} {g : Nat} {f0 : (List Int)} {f1 : Int} {f2 : Int} {f3 : Int} {f4 : Int} {α : Type} {d : Kd α} {e : Nat} {base : Nat} {ok : Nat → Prop} {v : Value} {xs : List α} (h : IsS55 w0 W g f0 f1 f2 f3 f4) (ho : d.R e W base ok v xs) (ht : e ≠ 55) : some g ≠ v.ownBlock := by
  obtain ⟨⟨A_, c_, hb, hcap, hr⟩, hg⟩ := h
  exact Kd.R_ne ho hb ht
theorem IsS55.apartQ {w0 W : World} {g : Nat} {f0 : (List Int)} {f1 : Int} {f2 : Int} {f3 : Int} {f4 : Int} {α : Type} {d : Kd α} {e : Nat} {base : Nat} {ok : Nat → Prop} {v : Value} {xs : List α} (h : IsS55 w0 W g f0 f1 f2 f3 f4) (ho : d.Q e W base ok v xs) (ht : ∀ q, q ∈ e :: d.E → q ≠ 55) : d.Q e W base (fun k => ok k ∧ k ≠ g) v xs := by
  obtain ⟨⟨A_, c_, hb, hcap, hr⟩, hg⟩ := h
  exact Kd.Q_types ho hb ht
theorem IsS55.own_neQ {w0 W : World} {g : Nat} {f0 : (List Int)} {f1 : Int} {f2 : Int} {f3 : Int} {f4 : Int} {α : Type} {d : Kd α} {e : Nat} {base : Nat} {ok : Nat → Prop} {v : Value} {xs : List α} (h : IsS55 w0 W g f0 f1 f2 f3 f4) (ho : d.Q e W base ok v xs) (ht : e ≠ 55) : some g ≠ v.ownBlock := by
  obtain ⟨⟨A_, c_, hb, hcap, hr⟩, hg⟩ := h
  exact Kd.Q_ne ho hb ht
theorem IsS55.apartS {w0 W : World} {g : Nat} {f0 : (List Int)} {f1 : Int} {f2 : Int} {f3 : Int} {f4 : Int} {α : Type} {d : Kd α} {e : Nat} {base : Nat} {ok : Nat → Prop} {v : Value} {xs : List α} (h : IsS55 w0 W g f0 f1 f2 f3 f4) (ho : d.S e W base ok v xs) (ht : ∀ q, q ∈ e :: d.E → q ≠ 55) : d.S e W base (fun k => ok k ∧ k ≠ g) v xs := by
  obtain ⟨⟨A_, c_, hb, hcap, hr⟩, hg⟩ := h
  exact Kd.S_types ho hb ht
theorem IsS55.own_neS {w0 W : World} {g : Nat} {f0 : (List Int)} {f1 : Int} {f2 : Int} {f3 : Int} {f4 : Int} {α : Type} {d : Kd α} {e : Nat} {base : Nat} {ok : Nat → Prop} {v : Value} {xs : List α} (h : IsS55 w0 W g f0 f1 f2 f3 f4) (ho : d.S e W base ok v xs) (ht : e ≠ 55) : some g ≠ v.ownBlock := by
  obtain ⟨⟨A_, c_, hb, hcap, hr⟩, hg⟩ := h
  exact Kd.S_ne ho hb ht
theorem IsS55.lt {w0 W : World} {g : Nat} {f0 : (List Int)} {f1 : Int} {f2 : Int} {f3 : Int} {f4 : Int} (h : IsS55 w0 W g f0 f1 f2 f3 f4) : g < W.heap.size := by
  obtain ⟨⟨A_, c_, hb, hcap, hr⟩, hg⟩ := h
  exact blk_lt hb
theorem IsS55.ge {w0 W : World} {g : Nat} {f0 : (List Int)} {f1 : Int} {f2 : Int} {f3 : Int} {f4 : Int} (h : IsS55 w0 W g f0 f1 f2 f3 f4) : w0.heap.size ≤ g := by
  obtain ⟨⟨A_, c_, hb, hcap, hr⟩, hg⟩ := h
  exact hg
theorem IsS55.ne_blk {w0 W : World} {g : Nat} {f0 : (List Int)} {f1 : Int} {f2 : Int} {f3 : Int} {f4 : Int} {a : Nat} {cs : Array Value} {t : TypeId} {fr : Nat × Nat} (h : IsS55 w0 W g f0 f1 f2 f3 f4) (hb2 : W.heap[a]? = some (.cells cs t fr)) (ht : t ≠ 55) : g ≠ a := by
  obtain ⟨⟨A_, c_, hb, hcap, hr⟩, hg⟩ := h
  rintro rfl
  rw [hb] at hb2
  injection hb2 with hb2
  injection hb2 with _ ht2
  exact ht ht2.symm
theorem IsS55.far {w0 W : World} {g : Nat} {f0 : (List Int)} {f1 : Int} {f2 : Int} {f3 : Int} {f4 : Int} {p : Addr} (h : IsS55 w0 W g f0 f1 f2 f3 f4) (hne : g ≠ p.block) {t : TypeId} (hp : TypeAt W p.block t) (ht : t ≠ 5) (u : Value) : IsS55 w0 (W.setCell p u) g f0 f1 f2 f3 f4 := by
  obtain ⟨⟨A_, c_, hb, hcap, hr⟩, hg⟩ := h
  obtain ⟨cs, hp⟩ := hp
  exact ⟨⟨A_, c_, blk_far hb hne u, hcap, hr.step fun b cs' fr' hb' => (Below.heap_setCell W p u b (RowIn.unlike hp ht hb')).trans hb'⟩, hg⟩
theorem cellS55_0 {W : World} {g : Nat} {A_ : Option Addr} {c_ : Nat} {f0 : (List Int)} {f1 : Int} {f2 : Int} {f3 : Int} {f4 : Int} (h : W.heap[g]? = some (.cells #[.slice A_ (f0).length c_, .int .i64 f1, .int .i64 f2, .int .i64 f3, .int .i64 f4] 55 (0, 0))) : W.cell? ⟨g, 0, none⟩ = some (.slice A_ (f0).length c_) := (blk_cell h 0).trans rfl
theorem IsS55.set_0 {w0 W : World} {g : Nat} {f0 : (List Int)} {f1 : Int} {f2 : Int} {f3 : Int} {f4 : Int} (h : IsS55 w0 W g f0 f1 f2 f3 f4) : IsS55 w0 (W.setCell ⟨g, 0, none⟩ (.slice none 0 0)) g [] f1 f2 f3 f4 := by
  obtain ⟨⟨A_, c_, hb, hcap, hr⟩, hg⟩ := h
  exact ⟨⟨none, 0, by simpa using blk_set hb 0 (.slice none 0 0), by simp, RowIn.nil _⟩, hg⟩
theorem IsS55.put {w0 W : World} {g : Nat} {f0 : (List Int)} {f1 : Int} {f2 : Int} {f3 : Int} {f4 : Int} (h : IsS55 w0 W g f0 f1 f2 f3 f4) (l : List Int) (A : Option Addr) (c : Nat) (hc : l.length ≤ c) (hr : RowIn W A l) : IsS55 w0 (W.setCell ⟨g, 0, none⟩ (.slice A l.length c)) g l f1 f2 f3 f4 := by
  obtain ⟨⟨A_, c_, hb, hcap, _⟩, hg⟩ := h
  exact ⟨⟨A, c, by simpa using blk_set hb 0 (.slice A l.length c), hc, hr.set hb (by decide) _ _⟩, hg⟩
theorem cellS55_1 {W : World} {g : Nat} {A_ : Option Addr} {c_ : Nat} {f0 : (List Int)} {f1 : Int} {f2 : Int} {f3 : Int} {f4 : Int} (h : W.heap[g]? = some (.cells #[.slice A_ (f0).length c_, .int .i64 f1, .int .i64 f2, .int .i64 f3, .int .i64 f4] 55 (0, 0))) : W.cell? ⟨g, 1, none⟩ = some (.int .i64 f1) := (blk_cell h 1).trans rfl
theorem IsS55.set_1 {w0 W : World} {g : Nat} {f0 : (List Int)} {f1 : Int} {f2 : Int} {f3 : Int} {f4 : Int} (h : IsS55 w0 W g f0 f1 f2 f3 f4) (x : Int) : IsS55 w0 (W.setCell ⟨g, 1, none⟩ (.int .i64 x)) g f0 x f2 f3 f4 := by
  obtain ⟨⟨A_, c_, hb, hcap, hr⟩, hg⟩ := h
  exact ⟨⟨A_, c_, by simpa using blk_set hb 1 (.int .i64 x), hcap, hr.set hb (by decide) _ _⟩, hg⟩
theorem cellS55_2 {W : World} {g : Nat} {A_ : Option Addr} {c_ : Nat} {f0 : (List Int)} {f1 : Int} {f2 : Int} {f3 : Int} {f4 : Int} (h : W.heap[g]? = some (.cells #[.slice A_ (f0).length c_, .int .i64 f1, .int .i64 f2, .int .i64 f3, .int .i64 f4] 55 (0, 0))) : W.cell? ⟨g, 2, none⟩ = some (.int .i64 f2) := (blk_cell h 2).trans rfl
theorem IsS55.set_2 {w0 W : World} {g : Nat} {f0 : (List Int)} {f1 : Int} {f2 : Int} {f3 : Int} {f4 : Int} (h : IsS55 w0 W g f0 f1 f2 f3 f4) (x : Int) : IsS55 w0 (W.setCell ⟨g, 2, none⟩ (.int .i64 x)) g f0 f1 x f3 f4 := by
  obtain ⟨⟨A_, c_, hb, hcap, hr⟩, hg⟩ := h
  exact ⟨⟨A_, c_, by simpa using blk_set hb 2 (.int .i64 x), hcap, hr.set hb (by decide) _ _⟩, hg⟩
theorem cellS55_3 {W : World} {g : Nat} {A_ : Option Addr} {c_ : Nat} {f0 : (List Int)} {f1 : Int} {f2 : Int} {f3 : Int} {f4 : Int} (h : W.heap[g]? = some (.cells #[.slice A_ (f0).length c_, .int .i64 f1, .int .i64 f2, .int .i64 f3, .int .i64 f4] 55 (0, 0))) : W.cell? ⟨g, 3, none⟩ = some (.int .i64 f3) := (blk_cell h 3).trans rfl
theorem IsS55.set_3 {w0 W : World} {g : Nat} {f0 : (List Int)} {f1 : Int} {f2 : Int} {f3 : Int} {f4 : Int} (h : IsS55 w0 W g f0 f1 f2 f3 f4) (x : Int) : IsS55 w0 (W.setCell ⟨g, 3, none⟩ (.int .i64 x)) g f0 f1 f2 x f4 := by
  obtain ⟨⟨A_, c_, hb, hcap, hr⟩, hg⟩ := h
  exact ⟨⟨A_, c_, by simpa using blk_set hb 3 (.int .i64 x), hcap, hr.set hb (by decide) _ _⟩, hg⟩
theorem cellS55_4 {W : World} {g : Nat} {A_ : Option Addr} {c_ : Nat} {f0 : (List Int)} {f1 : Int} {f2 : Int} {f3 : Int} {f4 : Int} (h : W.heap[g]? = some (.cells #[.slice A_ (f0).length c_, .int .i64 f1, .int .i64 f2, .int .i64 f3, .int .i64 f4] 55 (0, 0))) : W.cell? ⟨g, 4, none⟩ = some (.int .i64 f4) := (blk_cell h 4).trans rfl
theorem IsS55.set_4 {w0 W : World} {g : Nat} {f0 : (List Int)} {f1 : Int} {f2 : Int} {f3 : Int} {f4 : Int} (h : IsS55 w0 W g f0 f1 f2 f3 f4) (x : Int) : IsS55 w0 (W.setCell ⟨g, 4, none⟩ (.int .i64 x)) g f0 f1 f2 f3 x := by
  obtain ⟨⟨A_, c_, hb, hcap, hr⟩, hg⟩ := h
  exact ⟨⟨A_, c_, by simpa using blk_set hb 4 (.int .i64 x), hcap, hr.set hb (by decide) _ _⟩, hg⟩

/-! ### deckleref04_Open: function 14 -/
def deckleref04_Open.f (l0 : List Int) (a1 : Int) : Option ((List Int) × Int × Int × Int × Int) := (some (([] : List Int) : List Int)).bind fun y242 => (if y242.length + l0.length < 140737488355328 then (some ((y242 ++ l0), mn (mx a1 0) 1099511627776, 0, 0, 0)) else (none))
set_option maxHeartbeats 8000000 in
set_option maxRecDepth 100000 in
theorem deckleref04_Open.calls (A0 : Option Addr) (c0 : Nat) (l0 : List Int) (a1 : Int) (r1 : (List Int)) (r2 : Int) (r3 : Int) (r4 : Int) (r5 : Int) (w0 w : World) (hB : Below w0.heap.size w0 w) (hr0 : Kd.C (Kd.int .u8) w A0 l0.length l0) (hc0 : l0.length ≤ c0) (h : deckleref04_Open.f l0 a1 = some (r1, r2, r3, r4, r5)) :
    Calls Try.prog 14 #[.slice A0 l0.length c0, .int .i64 a1] w fun e w' => ∃ g_ : Nat, e = .returned (.pointer (some ⟨g_, 0, none⟩)) ∧ IsS55 w0 w' g_ r1 r2 r3 r4 r5 ∧ Below w0.heap.size w0 w' ∧ Below w.heap.size w w' := by
  have hu55 := Try.underlying55
  have HR0 := Aside0.mk hr0
  have HC0 := Aside0.mk hc0
  clear hr0 hc0
  have HBW := Aside0.mk (Below.refl w.heap.size w)
  have HW0 := Aside0.mk hB.size
  have HB := Aside0.mk hB
  have HB00 := Aside0.mk hB
  clear hB
  have H : ((some (([] : List Int) : List Int)).bind fun y242 => (if y242.length + l0.length < 140737488355328 then (some ((y242 ++ l0), mn (mx a1 0) 1099511627776, 0, 0, 0)) else (none))) = some (r1, r2, r3, r4, r5) := h
  clear h
  obtain ⟨y242, hy242⟩ : ∃ y_ : List Int, y_ = (([] : List Int)) := ⟨_, rfl⟩
  replace H : (if y242.length + l0.length < 140737488355328 then (some ((y242 ++ l0), mn (mx a1 0) 1099511627776, 0, 0, 0)) else (none)) = some (r1, r2, r3, r4, r5) := by first | (rw [hy242]; with_reducible exact H) | (have H2_ := (Option.bind_some _ _).symm.trans H; rw [hy242]; with_reducible exact H2_) | (have H2_ := (Option.bind_some _ _).symm.trans H; with_reducible exact H2_) | with_reducible exact H | (rw [hy242]; exact H) | exact H
  have Ny242 := Aside0.mk hy242
  clear hy242
  by_cases c3 : y242.length + l0.length < 140737488355328
  · rw [if_pos c3] at H
    have LMc3 := Aside0.mk c3
    clear c3
    obtain ⟨y245, hy245⟩ : ∃ y_ : List Int, y_ = (y242 ++ l0) := ⟨_, rfl⟩
    replace H : (some (y245, mn (mx a1 0) 1099511627776, 0, 0, 0)) = some (r1, r2, r3, r4, r5) := by first | (rw [hy245]; with_reducible exact H) | (have H2_ := (Option.bind_some _ _).symm.trans H; rw [hy245]; with_reducible exact H2_) | (have H2_ := (Option.bind_some _ _).symm.trans H; with_reducible exact H2_) | with_reducible exact H | (rw [hy245]; exact H) | exact H
    have Ny245 := Aside0.mk hy245
    clear hy245
    obtain ⟨ji4, hji4⟩ : ∃ j_ : Int, (mx a1 0) = j_ := ⟨_, rfl⟩
    replace H : (some (y245, mn (ji4) 1099511627776, 0, 0, 0)) = some (r1, r2, r3, r4, r5) := by first | (rw [hji4] at H; exact H) | (simp only [hji4] at H ⊢; exact H)
    (try (have hji4l : 0 ≤ ji4 := by (rw [← hji4]; unfold mx; (repeat' split) <;> omega)))
    (try (have hji4m : 0 ≤ ji4 := by omega))
    have hji4_ : (if a1 < 0 then 0 else a1) = ji4 := hji4
    obtain ⟨ji5, hji5⟩ : ∃ j_ : Int, (mn (ji4) 1099511627776) = j_ := ⟨_, rfl⟩
    replace H : (some (y245, ji5, 0, 0, 0)) = some (r1, r2, r3, r4, r5) := by first | (rw [hji5] at H; exact H) | (simp only [hji5] at H ⊢; exact H)
    have hji5_ : (if 1099511627776 < (ji4) then 1099511627776 else (ji4)) = ji5 := hji5
    simp only [Option.some.injEq, Prod.mk.injEq] at H
    obtain ⟨rfl, rfl, rfl, rfl, rfl⟩ := H
    go_enter Try.func14, Try.ntmps14
    go_wp2_with (first | ((with_reducible refine gate_dst (N := 5) rfl ?_); refine Kd.R_lit (Kd.int .u8) _ 5 ?hg (N := 5) ?hd (xs := ([] : List Int)) (inner := []) (ok := fun _ => True) (okp := fun _ => True) ?hr ?hp (fun _ hk => hk) trivial (Below.refl _ _) (Nat.le_refl _) (by simp) ?_; (case hd => rfl); (case hg => rfl); (case hr => first | (go_simp; done) | (go_simp; rfl)); (case hp => exact (Reps.none _ _)); intro v243 w6 ho7 hb hg_ hnew_; clear hg_ hnew_; (first | rw [← Ny242.out] at ho7 | (simp only [Int.reduceToNat] at ho7; rw [← Ny242.out] at ho7)); have n0_ := Aside0.mk (Kd.R_lower ho7 (below_size (by repeat (first | (with_reducible first | exact HBW.out | apply below_alloc | apply pw_below_drewN | apply below_drew1) | exact HBW.out)))); have n1_ := Aside0.mk (below_step (by repeat (first | (with_reducible first | exact HB.out | apply below_alloc | apply pw_below_drewN | apply below_drew1) | exact HB.out)) hb); have nw_ := Aside0.mk (below_step HBW.out hb); clear HB; clear HBW; have HO244 := n0_; have HB := n1_; have HBW := nw_; clear n0_ n1_ nw_; clear hb ho7) | ((with_reducible refine gate_builtin (b := .append) (xs := #[.tmp 5, .tmp 6]) rfl ?_); at_builtin; refine Kd.R_append_rows (Kd.int .u8) (w0 := w) w.heap.size rfl (.tmp 5) (.tmp 6) 22 5 (.int .u8 0) 1 rfl Try.underlying22 info5 rfl (by decide) (by omega) v243 y242 l0 _ _ _ (fun _ => True) (fun _ => False) rfl rfl ?aO ?aR (fun _ _ h => h) (fun _ h => h.elim) ?aF ?aB ?aS ?aL ?_; (case aR => repeat (first | exact (Kd.C_below HR0.out HBW.out) | (with_reducible refine Kd.C_alloc ?_ _) | (with_reducible refine Kd.C_drewN ?_ _) | (with_reducible refine Kd.C_drew ?_))); (case aB => exact (by repeat (first | (with_reducible first | exact HBW.out | apply below_alloc | apply pw_below_drewN | apply below_drew1) | exact HBW.out))); (case aF => exact (fun _ _ => trivial)); (case aO => exact (by (with_reducible repeat (first | apply Kd.R_alloc | apply Kd.R_drewN | apply Kd.R_drew)); exact HO244.out)); (case aS => exact (below_size (by repeat (first | (with_reducible first | exact HBW.out | apply below_alloc | apply pw_below_drewN | apply below_drew1) | exact HBW.out)))); (case aL => have := LMc3.out; omega); intro v246 w8 ho hb hg hat; rw [← Ny245.out] at ho; have n0_ := Aside0.mk (below_step HB00.out hb); have nw_ := Aside0.mk hb; have n1_ := Aside0.mk (ho); clear HB; clear HBW; have HBW := nw_; clear nw_; clear HO244; have HB := n0_; have HO247 := n1_; clear n0_ n1_; clear ho hb hg hat; obtain ⟨Ao9, co9, eo9⟩ := Kd.R_slice HO247.out; subst eo9) | ((with_reducible refine gate_dst (N := 12) rfl ?_); refine box_event ?hg (N := 12) ?hd (cs := #[.slice Ao9 y245.length co9, .int .i64 ji5, .int .i64 0, .int .i64 0, .int .i64 0]) (t := 55) ?hr ?_; (case hd => rfl); (case hg => rfl); (case hr => first | (go_simp; done) | (go_simp; rfl)); intro gb248 hg w10 hbox hb; have n0_ := Aside0.mk (Kd.R_below (by (with_reducible repeat (first | apply Kd.R_alloc | apply Kd.R_drewN | apply Kd.R_drew)); exact HO247.out) hb); have n1_ := Aside0.mk (below_step HBW.out hb); have n2_ := Aside0.mk (below_step (by repeat (first | (with_reducible first | exact HB.out | apply below_alloc | apply pw_below_drewN | apply below_drew1) | exact HB.out)) hb); have n3_ := Aside0.mk (hbox); have n4_ := Aside0.mk ((by rw [hg]; exact (below_size (by repeat (first | (with_reducible first | exact HBW.out | apply below_alloc | apply pw_below_drewN | apply below_drew1) | exact HBW.out))) : w.heap.size ≤ gb248)); have n5_ := Aside0.mk ((Nat.le_trans HW0.out (by rw [hg]; exact (below_size (by repeat (first | (with_reducible first | exact HBW.out | apply below_alloc | apply pw_below_drewN | apply below_drew1) | exact HBW.out))) : w.heap.size ≤ gb248) : w0.heap.size ≤ gb248)); clear HO247; clear HBW; clear HB; have HO247 := n0_; have HBW := n1_; have HB := n2_; have BK248 := n3_; have GW248 := n4_; have GE248 := n5_; clear n0_ n1_ n2_ n3_ n4_ n5_; clear hb hbox hg))
    go_ret
    exact ⟨_, rfl, (show IsS55 w0 _ gb248 y245 ji5 0 0 0 from ⟨⟨_, _, by (with_reducible repeat (first | refine blk_drewN ?_ _ | refine blk_drew ?_ | refine blk_alloc ?_ _)); exact BK248.out, (RowIn.of_R HO247.out).2.1, (RowIn.of_R HO247.out).2.2⟩, GE248.out⟩), by repeat (first | (with_reducible first | exact HB.out | apply below_alloc | apply pw_below_drewN | apply below_drew1 | refine below_set ?_ GE248.out) | exact HB.out), by repeat (first | (with_reducible first | exact HBW.out | apply below_alloc | apply pw_below_drewN | apply below_drew1 | refine below_set ?_ GW248.out) | exact HBW.out)⟩
  · rw [if_neg c3] at H
    exact absurd H (by simp)

/-! ### deckleref04_Cursor_Fail: function 23 -/
def deckleref04_Cursor_Fail.f (s0_0 : (List Int)) (s0_1 : Int) (s0_2 : Int) (s0_3 : Int) (s0_4 : Int) (a1 : Int) : Option ((List Int) × Int × Int × Int × Int) := if a1 = 0 then (some (s0_0, s0_1, s0_2, s0_3, s0_4)) else (if s0_2 = 0 then (some (([] : (List Int)), s0_1, a1, 0, s0_1)) else (some (([] : (List Int)), s0_1, s0_2, s0_3, s0_4)))
set_option maxHeartbeats 8000000 in
set_option maxRecDepth 100000 in
theorem deckleref04_Cursor_Fail.calls (g : Nat) (s0_0 : (List Int)) (s0_1 : Int) (s0_2 : Int) (s0_3 : Int) (s0_4 : Int) (a1 : Int) (r1 : (List Int)) (r2 : Int) (r3 : Int) (r4 : Int) (r5 : Int) (w0 w : World) (hI : IsS55 w0 w g s0_0 s0_1 s0_2 s0_3 s0_4) (hB : Below w0.heap.size w0 w) (h : deckleref04_Cursor_Fail.f s0_0 s0_1 s0_2 s0_3 s0_4 a1 = some (r1, r2, r3, r4, r5)) :
    Calls Try.prog 23 #[.pointer (some ⟨g, 0, none⟩), .int .i64 a1] w fun e w' => e = .returned (.tuple #[]) ∧ IsS55 w0 w' g r1 r2 r3 r4 r5 ∧ Below w0.heap.size w0 w' ∧ KeepBut w w' g none := by
  have hu31 := Try.underlying31
  have HI0 := Aside0.mk hI
  have HK := Aside0.mk (KeepBut.refl w g none)
  have HL := Aside0.mk hB.size
  clear hI
  have HW0 := Aside0.mk hB.size
  have HB := Aside0.mk hB
  clear hB
  have H : (if a1 = 0 then (some (s0_0, s0_1, s0_2, s0_3, s0_4)) else (if s0_2 = 0 then (some (([] : (List Int)), s0_1, a1, 0, s0_1)) else (some (([] : (List Int)), s0_1, s0_2, s0_3, s0_4)))) = some (r1, r2, r3, r4, r5) := h
  clear h
  by_cases c3 : a1 = 0
  · rw [if_pos c3] at H
    have c3b0 : (a1 == 0) = true := beq_iff_eq.mpr c3
    have c3b1 : (a1 != 0) = false := bne_eq_false_iff_eq.mpr c3
    clear c3
    simp only [Option.some.injEq, Prod.mk.injEq] at H
    obtain ⟨rfl, rfl, rfl, rfl, rfl⟩ := H
    go_enter Try.func23, Try.ntmps23
    go_wp2
    first | go_end0 | ((try simp only [Exit.inBlock, Exit.then]); refine bodyPost_ret (results_none rfl _ _ _) rfl ?_)
    exact ⟨by first | rfl | (simp [errW_none, errW_some] <;> rfl) | (simp [*, errW_none, errW_some] <;> rfl), by repeat (first | (with_reducible first | exact HI0.out | apply IsS55.alloc | apply IsS55.drewN | apply IsS55.drew | apply IsS55.set_0 | apply IsS55.set_1 | apply IsS55.set_2 | apply IsS55.set_3 | apply IsS55.set_4) | exact HI0.out), by repeat (first | (with_reducible first | exact HB.out | apply below_alloc | apply pw_below_drewN | apply below_drew1 | refine below_set ?_ (IsS55.ge HI0.out)) | exact HB.out), by repeat (first | (with_reducible first | exact HK.out | apply KeepBut.set_ | apply keep_drewN | apply keep_drew | apply keep_alloc) | exact HK.out)⟩
  · rw [if_neg c3] at H
    have c3b0 : (a1 == 0) = false := beq_eq_false_iff_ne.mpr c3
    have c3b1 : (a1 != 0) = true := bne_iff_ne.mpr c3
    by_cases c4 : s0_2 = 0
    · rw [if_pos c4] at H
      have c4b0 : (s0_2 == 0) = true := beq_iff_eq.mpr c4
      have c4b1 : (s0_2 != 0) = false := bne_eq_false_iff_eq.mpr c4
      clear c4
      simp only [Option.some.injEq, Prod.mk.injEq] at H
      obtain ⟨rfl, rfl, rfl, rfl, rfl⟩ := H
      obtain ⟨⟨A_, c_, HGz5, hcapz5, HRz5⟩, hgz5⟩ := HI0.out
      have HCz5 := HRz5.1
      have hcz5_0 := cellS55_0 HGz5
      have hcz5_1 := cellS55_1 HGz5
      have hcz5_2 := cellS55_2 HGz5
      have hcz5_3 := cellS55_3 HGz5
      have hcz5_4 := cellS55_4 HGz5
      have hfz5_0 := blk_frozen HGz5 0
      have hfz5_1 := blk_frozen HGz5 1
      have hfz5_2 := blk_frozen HGz5 2
      have hfz5_3 := blk_frozen HGz5 3
      have hfz5_4 := blk_frozen HGz5 4
      clear HGz5 hgz5
      go_enter Try.func23, Try.ntmps23
      go_wp2
      first | go_end0 | ((try simp only [Exit.inBlock, Exit.then]); refine bodyPost_ret (results_none rfl _ _ _) rfl ?_)
      exact ⟨by first | rfl | (simp [errW_none, errW_some] <;> rfl) | (simp [*, errW_none, errW_some] <;> rfl), by repeat (first | (with_reducible first | exact HI0.out | apply IsS55.alloc | apply IsS55.drewN | apply IsS55.drew | apply IsS55.set_0 | apply IsS55.set_1 | apply IsS55.set_2 | apply IsS55.set_3 | apply IsS55.set_4) | exact HI0.out), by repeat (first | (with_reducible first | exact HB.out | apply below_alloc | apply pw_below_drewN | apply below_drew1 | refine below_set ?_ (IsS55.ge HI0.out)) | exact HB.out), by repeat (first | (with_reducible first | exact HK.out | apply KeepBut.set_ | apply keep_drewN | apply keep_drew | apply keep_alloc) | exact HK.out)⟩
    · rw [if_neg c4] at H
      have c4b0 : (s0_2 == 0) = false := beq_eq_false_iff_ne.mpr c4
      have c4b1 : (s0_2 != 0) = true := bne_iff_ne.mpr c4
      simp only [Option.some.injEq, Prod.mk.injEq] at H
      obtain ⟨rfl, rfl, rfl, rfl, rfl⟩ := H
      obtain ⟨⟨A_, c_, HGz6, hcapz6, HRz6⟩, hgz6⟩ := HI0.out
      have HCz6 := HRz6.1
      have hcz6_0 := cellS55_0 HGz6
      have hcz6_1 := cellS55_1 HGz6
      have hcz6_2 := cellS55_2 HGz6
      have hcz6_3 := cellS55_3 HGz6
      have hcz6_4 := cellS55_4 HGz6
      have hfz6_0 := blk_frozen HGz6 0
      have hfz6_1 := blk_frozen HGz6 1
      have hfz6_2 := blk_frozen HGz6 2
      have hfz6_3 := blk_frozen HGz6 3
      have hfz6_4 := blk_frozen HGz6 4
      clear HGz6 hgz6
      go_enter Try.func23, Try.ntmps23
      go_wp2
      first | go_end0 | ((try simp only [Exit.inBlock, Exit.then]); refine bodyPost_ret (results_none rfl _ _ _) rfl ?_)
      exact ⟨by first | rfl | (simp [errW_none, errW_some] <;> rfl) | (simp [*, errW_none, errW_some] <;> rfl), by repeat (first | (with_reducible first | exact HI0.out | apply IsS55.alloc | apply IsS55.drewN | apply IsS55.drew | apply IsS55.set_0 | apply IsS55.set_1 | apply IsS55.set_2 | apply IsS55.set_3 | apply IsS55.set_4) | exact HI0.out), by repeat (first | (with_reducible first | exact HB.out | apply below_alloc | apply pw_below_drewN | apply below_drew1 | refine below_set ?_ (IsS55.ge HI0.out)) | exact HB.out), by repeat (first | (with_reducible first | exact HK.out | apply KeepBut.set_ | apply keep_drewN | apply keep_drew | apply keep_alloc) | exact HK.out)⟩

end Go.Proofs.Ytgegbiknohjpgaa.HCursorReads
