-- Written by the session's program hy.py.
import Derived.Test.YtamcgfnmnlpneaaHVarintZigsx0
import Derived.Test.YtamcgfnmnlpneaaHVarintZigsx1
namespace Go.Proofs.Ytamcgfnmnlpneaa.HVarintZigs
open Go.RowKit Go.Proofs.YtamcgfnmnlpneaaW.PrintWords Go.Proofs.YtamcgfnmnlpneaaW.PrintLast Go.Proofs.YtamcgfnmnlpneaaW.PrintMore
attribute [local go_sem] max2_int min2_int max_two min_two max_three min_three max_four min_four   -- for this text's walks alone
set_option linter.unusedVariables false
set_option linter.unusedSimpArgs false

/-! ### decklelaw03_small: function 9 -/
theorem lit_conv {P : Program} {ops : Array Oper} {rest : List Oper} {o : Oper} {a : Act} {Q : Exit → Act → World → Prop} {W : World} (hgd : o.guard = none) (t e : TypeId) (x : Operand) (ho : o.op = .convert t t x)
    (ht : P.underlying t = some (.slice e)) (he : P.underlying e = some (.int .u8)) (bs : List Int) (C : Array Value) (hC : C = (nums .u8 bs).toArray) (n : Nat) (hn : n = bs.length) (hm : bs.length ≤ 9223372036854775807) (hx : a.eval x = .slice (some ⟨W.heap.size, 0, none⟩) n n)
    (h : ∀ v w1, Kd.V (Kd.int .u8) e w1 W.heap.size (fun k => W.heap.size ≤ k) v bs → Below W.heap.size W w1 → wpList P ops Q rest (a.put o.dst v) w1) : wpList P ops Q (o :: rest) a (W.alloc (.cells C e)) := by
  subst hn
  have hrun : (execOp a.eval o).run P (W.alloc (.cells C e)) = .ok (.value (.slice (some ⟨W.heap.size, 0, none⟩) bs.length bs.length)) (W.alloc (.cells C e (C.size, C.size + 1))) := by
    have h1 := Lib.run_convert_bytes_const (P := P) W t e C bs.length bs.length ht he
    unfold execOp
    simp only [ho, Sem.run_bind, hx, h1, Result.andThen_ok, Sem.run_pure]
  refine Kd.event_run hgd hrun (h _ _ ⟨some ⟨W.heap.size, 0, none⟩, bs.length, rfl, Nat.le_refl _, fun W' hW => ?_⟩ (below_alloc (Below.refl _ _) _))
  have hblk : W'.heap[W.heap.size]? = some (.cells C e (C.size, C.size + 1)) := (hW W.heap.size (Nat.le_refl _) (by simp)).trans (heap_alloc_new W _)
  refine Kd.C_of_reads (d := (0 : Int)) (h1 := fun _ => rfl) ⟨rfl, hm, fun _ => ⟨⟨W.heap.size, 0, none⟩, rfl, fun j hj => ?_⟩⟩
  rw [add_plain]
  simp only [World.cell?, hblk, hC]
  simp [nums, List.getElem?_eq_getElem hj, List.getD_eq_getElem?_getD]
def hylit100000.f : Option (List Int) := some [120]
def decklelaw03_small.f (k : Nat)  : Option (Bool) := (varint_Take.f k (([172, 2, 9] : List Int))).bind fun bt121 => ((varint_Take.f k (([128, 0] : List Int))).bind fun bt127 => ((varint_Take.f k (([128] : List Int))).bind fun bt133 => ((varint_Take.f k (([255, 255, 255, 255, 255, 255, 255, 255, 255, 2] : List Int))).bind fun bt139 => ((varint_Take.f k (([255, 255, 255, 255, 255, 255, 255, 255, 255, 1] : List Int))).bind fun bt145 => (if bt121.1 = 300 then (if bt121.2.1 = 2 then (if bt121.2.2 = 0 then (if bt127.2.2 = 3 then (if bt133.2.2 = 2 then (if bt139.2.2 = 3 then (if bt145.1 = 18446744073709551615 then (if bt145.2.1 = 10 then (if bt145.2.2 = 0 then ((hylit100000.f).bind fun t148 => ((varint_Put.f k t148 (([0, 127, 128] : List Int))).bind fun t154 => (if (strOfNums t154).toList = ([120, 0, 127, 128, 1] : List UInt8) then ((varint_Size.f k 127).bind fun t157 => (if t157 = 1 then ((varint_Size.f k 128).bind fun t158 => (if t158 = 2 then ((varint_Zig.f (-1)).bind fun t159 => (if t159 = 1 then ((varint_Zig.f 1).bind fun t160 => (if t160 = 2 then ((varint_Zag.f 3).bind fun t161 => (if t161 = (-2) then ((varint_Zag.f 18446744073709551615).bind fun t162 => (some (t162 == (-9223372036854775808)))) else (none))) else (none))) else (none))) else (none))) else (none))) else (none)))) else (none)) else (none)) else (none)) else (none)) else (none)) else (none)) else (none)) else (none)) else (none))))))
theorem decklelaw03_small.mono : ∀ k, LeO (decklelaw03_small.f k ) (decklelaw03_small.f (k + 1) ) := by
  intro  k
  unfold decklelaw03_small.f
  repeat' first
      | (with_reducible exact varint_Put.mono _ _ _)
      | (with_reducible exact varint_Size.mono _ _)
      | (with_reducible exact varint_Take.mono _ _)
      | (with_reducible exact LeO.refl _)
      | (with_reducible exact LeO.none _)
      | (with_reducible refine LeO.ite ?_ ?_)
      | (with_reducible refine LeO.bind ?_ (fun _ => ?_))
      | exact varint_Put.mono _ _ _
      | exact varint_Size.mono _ _
      | exact varint_Take.mono _ _
      | exact LeO.none _
      | refine LeO.ite ?_ ?_
      | refine LeO.bind ?_ (fun _ => ?_)
set_option maxHeartbeats 8000000 in
set_option maxRecDepth 100000 in
theorem decklelaw03_small.calls (k : Nat)  (r : Bool) (w : World) (h : decklelaw03_small.f k  = some r) :
    Calls Try.prog 9 #[] w fun e w' => e = .returned (.bool r) ∧ Below w.heap.size w w' := by
  have HB := Aside0.mk (Below.refl w.heap.size w)
  have H : ((varint_Take.f k (([172, 2, 9] : List Int))).bind fun bt121 => ((varint_Take.f k (([128, 0] : List Int))).bind fun bt127 => ((varint_Take.f k (([128] : List Int))).bind fun bt133 => ((varint_Take.f k (([255, 255, 255, 255, 255, 255, 255, 255, 255, 2] : List Int))).bind fun bt139 => ((varint_Take.f k (([255, 255, 255, 255, 255, 255, 255, 255, 255, 1] : List Int))).bind fun bt145 => (if bt121.1 = 300 then (if bt121.2.1 = 2 then (if bt121.2.2 = 0 then (if bt127.2.2 = 3 then (if bt133.2.2 = 2 then (if bt139.2.2 = 3 then (if bt145.1 = 18446744073709551615 then (if bt145.2.1 = 10 then (if bt145.2.2 = 0 then ((hylit100000.f).bind fun t148 => ((varint_Put.f k t148 (([0, 127, 128] : List Int))).bind fun t154 => (if (strOfNums t154).toList = ([120, 0, 127, 128, 1] : List UInt8) then ((varint_Size.f k 127).bind fun t157 => (if t157 = 1 then ((varint_Size.f k 128).bind fun t158 => (if t158 = 2 then ((varint_Zig.f (-1)).bind fun t159 => (if t159 = 1 then ((varint_Zig.f 1).bind fun t160 => (if t160 = 2 then ((varint_Zag.f 3).bind fun t161 => (if t161 = (-2) then ((varint_Zag.f 18446744073709551615).bind fun t162 => (some (t162 == (-9223372036854775808)))) else (none))) else (none))) else (none))) else (none))) else (none))) else (none)))) else (none)) else (none)) else (none)) else (none)) else (none)) else (none)) else (none)) else (none)) else (none))))))) = some r := h
  clear h
  obtain ⟨y118, hy118⟩ : ∃ y_ : List Int, y_ = (([172, 2, 9] : List Int)) := ⟨_, rfl⟩
  replace H : ((varint_Take.f k y118).bind fun bt121 => ((varint_Take.f k (([128, 0] : List Int))).bind fun bt127 => ((varint_Take.f k (([128] : List Int))).bind fun bt133 => ((varint_Take.f k (([255, 255, 255, 255, 255, 255, 255, 255, 255, 2] : List Int))).bind fun bt139 => ((varint_Take.f k (([255, 255, 255, 255, 255, 255, 255, 255, 255, 1] : List Int))).bind fun bt145 => (if bt121.1 = 300 then (if bt121.2.1 = 2 then (if bt121.2.2 = 0 then (if bt127.2.2 = 3 then (if bt133.2.2 = 2 then (if bt139.2.2 = 3 then (if bt145.1 = 18446744073709551615 then (if bt145.2.1 = 10 then (if bt145.2.2 = 0 then ((hylit100000.f).bind fun t148 => ((varint_Put.f k t148 (([0, 127, 128] : List Int))).bind fun t154 => (if (strOfNums t154).toList = ([120, 0, 127, 128, 1] : List UInt8) then ((varint_Size.f k 127).bind fun t157 => (if t157 = 1 then ((varint_Size.f k 128).bind fun t158 => (if t158 = 2 then ((varint_Zig.f (-1)).bind fun t159 => (if t159 = 1 then ((varint_Zig.f 1).bind fun t160 => (if t160 = 2 then ((varint_Zag.f 3).bind fun t161 => (if t161 = (-2) then ((varint_Zag.f 18446744073709551615).bind fun t162 => (some (t162 == (-9223372036854775808)))) else (none))) else (none))) else (none))) else (none))) else (none))) else (none)))) else (none)) else (none)) else (none)) else (none)) else (none)) else (none)) else (none)) else (none)) else (none))))))) = some r := by first | (rw [hy118]; with_reducible exact H) | (have H2_ := (Option.bind_some _ _).symm.trans H; rw [hy118]; with_reducible exact H2_) | (have H2_ := (Option.bind_some _ _).symm.trans H; with_reducible exact H2_) | with_reducible exact H | (rw [hy118]; exact H) | exact H
  have Ny118 := Aside0.mk hy118
  clear hy118
  replace H := Option.bind_eq_some_iff.mp H
  obtain ⟨⟨t121, t122, t123⟩, A10, H⟩ := H
  replace H : ((varint_Take.f k (([128, 0] : List Int))).bind fun bt127 => ((varint_Take.f k (([128] : List Int))).bind fun bt133 => ((varint_Take.f k (([255, 255, 255, 255, 255, 255, 255, 255, 255, 2] : List Int))).bind fun bt139 => ((varint_Take.f k (([255, 255, 255, 255, 255, 255, 255, 255, 255, 1] : List Int))).bind fun bt145 => (if t121 = 300 then (if t122 = 2 then (if t123 = 0 then (if bt127.2.2 = 3 then (if bt133.2.2 = 2 then (if bt139.2.2 = 3 then (if bt145.1 = 18446744073709551615 then (if bt145.2.1 = 10 then (if bt145.2.2 = 0 then ((hylit100000.f).bind fun t148 => ((varint_Put.f k t148 (([0, 127, 128] : List Int))).bind fun t154 => (if (strOfNums t154).toList = ([120, 0, 127, 128, 1] : List UInt8) then ((varint_Size.f k 127).bind fun t157 => (if t157 = 1 then ((varint_Size.f k 128).bind fun t158 => (if t158 = 2 then ((varint_Zig.f (-1)).bind fun t159 => (if t159 = 1 then ((varint_Zig.f 1).bind fun t160 => (if t160 = 2 then ((varint_Zag.f 3).bind fun t161 => (if t161 = (-2) then ((varint_Zag.f 18446744073709551615).bind fun t162 => (some (t162 == (-9223372036854775808)))) else (none))) else (none))) else (none))) else (none))) else (none))) else (none)))) else (none)) else (none)) else (none)) else (none)) else (none)) else (none)) else (none)) else (none)) else (none)))))) = some r := H
  have A1 := Aside0.mk A10
  clear A10
  obtain ⟨y124, hy124⟩ : ∃ y_ : List Int, y_ = (([128, 0] : List Int)) := ⟨_, rfl⟩
  replace H : ((varint_Take.f k y124).bind fun bt127 => ((varint_Take.f k (([128] : List Int))).bind fun bt133 => ((varint_Take.f k (([255, 255, 255, 255, 255, 255, 255, 255, 255, 2] : List Int))).bind fun bt139 => ((varint_Take.f k (([255, 255, 255, 255, 255, 255, 255, 255, 255, 1] : List Int))).bind fun bt145 => (if t121 = 300 then (if t122 = 2 then (if t123 = 0 then (if bt127.2.2 = 3 then (if bt133.2.2 = 2 then (if bt139.2.2 = 3 then (if bt145.1 = 18446744073709551615 then (if bt145.2.1 = 10 then (if bt145.2.2 = 0 then ((hylit100000.f).bind fun t148 => ((varint_Put.f k t148 (([0, 127, 128] : List Int))).bind fun t154 => (if (strOfNums t154).toList = ([120, 0, 127, 128, 1] : List UInt8) then ((varint_Size.f k 127).bind fun t157 => (if t157 = 1 then ((varint_Size.f k 128).bind fun t158 => (if t158 = 2 then ((varint_Zig.f (-1)).bind fun t159 => (if t159 = 1 then ((varint_Zig.f 1).bind fun t160 => (if t160 = 2 then ((varint_Zag.f 3).bind fun t161 => (if t161 = (-2) then ((varint_Zag.f 18446744073709551615).bind fun t162 => (some (t162 == (-9223372036854775808)))) else (none))) else (none))) else (none))) else (none))) else (none))) else (none)))) else (none)) else (none)) else (none)) else (none)) else (none)) else (none)) else (none)) else (none)) else (none)))))) = some r := by first | (rw [hy124]; with_reducible exact H) | (have H2_ := (Option.bind_some _ _).symm.trans H; rw [hy124]; with_reducible exact H2_) | (have H2_ := (Option.bind_some _ _).symm.trans H; with_reducible exact H2_) | with_reducible exact H | (rw [hy124]; exact H) | exact H
  have Ny124 := Aside0.mk hy124
  clear hy124
  replace H := Option.bind_eq_some_iff.mp H
  obtain ⟨⟨t127, t128, t129⟩, A20, H⟩ := H
  replace H : ((varint_Take.f k (([128] : List Int))).bind fun bt133 => ((varint_Take.f k (([255, 255, 255, 255, 255, 255, 255, 255, 255, 2] : List Int))).bind fun bt139 => ((varint_Take.f k (([255, 255, 255, 255, 255, 255, 255, 255, 255, 1] : List Int))).bind fun bt145 => (if t121 = 300 then (if t122 = 2 then (if t123 = 0 then (if t129 = 3 then (if bt133.2.2 = 2 then (if bt139.2.2 = 3 then (if bt145.1 = 18446744073709551615 then (if bt145.2.1 = 10 then (if bt145.2.2 = 0 then ((hylit100000.f).bind fun t148 => ((varint_Put.f k t148 (([0, 127, 128] : List Int))).bind fun t154 => (if (strOfNums t154).toList = ([120, 0, 127, 128, 1] : List UInt8) then ((varint_Size.f k 127).bind fun t157 => (if t157 = 1 then ((varint_Size.f k 128).bind fun t158 => (if t158 = 2 then ((varint_Zig.f (-1)).bind fun t159 => (if t159 = 1 then ((varint_Zig.f 1).bind fun t160 => (if t160 = 2 then ((varint_Zag.f 3).bind fun t161 => (if t161 = (-2) then ((varint_Zag.f 18446744073709551615).bind fun t162 => (some (t162 == (-9223372036854775808)))) else (none))) else (none))) else (none))) else (none))) else (none))) else (none)))) else (none)) else (none)) else (none)) else (none)) else (none)) else (none)) else (none)) else (none)) else (none))))) = some r := H
  have A2 := Aside0.mk A20
  clear A20
  obtain ⟨y130, hy130⟩ : ∃ y_ : List Int, y_ = (([128] : List Int)) := ⟨_, rfl⟩
  replace H : ((varint_Take.f k y130).bind fun bt133 => ((varint_Take.f k (([255, 255, 255, 255, 255, 255, 255, 255, 255, 2] : List Int))).bind fun bt139 => ((varint_Take.f k (([255, 255, 255, 255, 255, 255, 255, 255, 255, 1] : List Int))).bind fun bt145 => (if t121 = 300 then (if t122 = 2 then (if t123 = 0 then (if t129 = 3 then (if bt133.2.2 = 2 then (if bt139.2.2 = 3 then (if bt145.1 = 18446744073709551615 then (if bt145.2.1 = 10 then (if bt145.2.2 = 0 then ((hylit100000.f).bind fun t148 => ((varint_Put.f k t148 (([0, 127, 128] : List Int))).bind fun t154 => (if (strOfNums t154).toList = ([120, 0, 127, 128, 1] : List UInt8) then ((varint_Size.f k 127).bind fun t157 => (if t157 = 1 then ((varint_Size.f k 128).bind fun t158 => (if t158 = 2 then ((varint_Zig.f (-1)).bind fun t159 => (if t159 = 1 then ((varint_Zig.f 1).bind fun t160 => (if t160 = 2 then ((varint_Zag.f 3).bind fun t161 => (if t161 = (-2) then ((varint_Zag.f 18446744073709551615).bind fun t162 => (some (t162 == (-9223372036854775808)))) else (none))) else (none))) else (none))) else (none))) else (none))) else (none)))) else (none)) else (none)) else (none)) else (none)) else (none)) else (none)) else (none)) else (none)) else (none))))) = some r := by first | (rw [hy130]; with_reducible exact H) | (have H2_ := (Option.bind_some _ _).symm.trans H; rw [hy130]; with_reducible exact H2_) | (have H2_ := (Option.bind_some _ _).symm.trans H; with_reducible exact H2_) | with_reducible exact H | (rw [hy130]; exact H) | exact H
  have Ny130 := Aside0.mk hy130
  clear hy130
  replace H := Option.bind_eq_some_iff.mp H
  obtain ⟨⟨t133, t134, t135⟩, A30, H⟩ := H
  replace H : ((varint_Take.f k (([255, 255, 255, 255, 255, 255, 255, 255, 255, 2] : List Int))).bind fun bt139 => ((varint_Take.f k (([255, 255, 255, 255, 255, 255, 255, 255, 255, 1] : List Int))).bind fun bt145 => (if t121 = 300 then (if t122 = 2 then (if t123 = 0 then (if t129 = 3 then (if t135 = 2 then (if bt139.2.2 = 3 then (if bt145.1 = 18446744073709551615 then (if bt145.2.1 = 10 then (if bt145.2.2 = 0 then ((hylit100000.f).bind fun t148 => ((varint_Put.f k t148 (([0, 127, 128] : List Int))).bind fun t154 => (if (strOfNums t154).toList = ([120, 0, 127, 128, 1] : List UInt8) then ((varint_Size.f k 127).bind fun t157 => (if t157 = 1 then ((varint_Size.f k 128).bind fun t158 => (if t158 = 2 then ((varint_Zig.f (-1)).bind fun t159 => (if t159 = 1 then ((varint_Zig.f 1).bind fun t160 => (if t160 = 2 then ((varint_Zag.f 3).bind fun t161 => (if t161 = (-2) then ((varint_Zag.f 18446744073709551615).bind fun t162 => (some (t162 == (-9223372036854775808)))) else (none))) else (none))) else (none))) else (none))) else (none))) else (none)))) else (none)) else (none)) else (none)) else (none)) else (none)) else (none)) else (none)) else (none)) else (none)))) = some r := H
  have A3 := Aside0.mk A30
  clear A30
  obtain ⟨y136, hy136⟩ : ∃ y_ : List Int, y_ = (([255, 255, 255, 255, 255, 255, 255, 255, 255, 2] : List Int)) := ⟨_, rfl⟩
  replace H : ((varint_Take.f k y136).bind fun bt139 => ((varint_Take.f k (([255, 255, 255, 255, 255, 255, 255, 255, 255, 1] : List Int))).bind fun bt145 => (if t121 = 300 then (if t122 = 2 then (if t123 = 0 then (if t129 = 3 then (if t135 = 2 then (if bt139.2.2 = 3 then (if bt145.1 = 18446744073709551615 then (if bt145.2.1 = 10 then (if bt145.2.2 = 0 then ((hylit100000.f).bind fun t148 => ((varint_Put.f k t148 (([0, 127, 128] : List Int))).bind fun t154 => (if (strOfNums t154).toList = ([120, 0, 127, 128, 1] : List UInt8) then ((varint_Size.f k 127).bind fun t157 => (if t157 = 1 then ((varint_Size.f k 128).bind fun t158 => (if t158 = 2 then ((varint_Zig.f (-1)).bind fun t159 => (if t159 = 1 then ((varint_Zig.f 1).bind fun t160 => (if t160 = 2 then ((varint_Zag.f 3).bind fun t161 => (if t161 = (-2) then ((varint_Zag.f 18446744073709551615).bind fun t162 => (some (t162 == (-9223372036854775808)))) else (none))) else (none))) else (none))) else (none))) else (none))) else (none)))) else (none)) else (none)) else (none)) else (none)) else (none)) else (none)) else (none)) else (none)) else (none)))) = some r := by first | (rw [hy136]; with_reducible exact H) | (have H2_ := (Option.bind_some _ _).symm.trans H; rw [hy136]; with_reducible exact H2_) | (have H2_ := (Option.bind_some _ _).symm.trans H; with_reducible exact H2_) | with_reducible exact H | (rw [hy136]; exact H) | exact H
  have Ny136 := Aside0.mk hy136
  clear hy136
  replace H := Option.bind_eq_some_iff.mp H
  obtain ⟨⟨t139, t140, t141⟩, A40, H⟩ := H
  replace H : ((varint_Take.f k (([255, 255, 255, 255, 255, 255, 255, 255, 255, 1] : List Int))).bind fun bt145 => (if t121 = 300 then (if t122 = 2 then (if t123 = 0 then (if t129 = 3 then (if t135 = 2 then (if t141 = 3 then (if bt145.1 = 18446744073709551615 then (if bt145.2.1 = 10 then (if bt145.2.2 = 0 then ((hylit100000.f).bind fun t148 => ((varint_Put.f k t148 (([0, 127, 128] : List Int))).bind fun t154 => (if (strOfNums t154).toList = ([120, 0, 127, 128, 1] : List UInt8) then ((varint_Size.f k 127).bind fun t157 => (if t157 = 1 then ((varint_Size.f k 128).bind fun t158 => (if t158 = 2 then ((varint_Zig.f (-1)).bind fun t159 => (if t159 = 1 then ((varint_Zig.f 1).bind fun t160 => (if t160 = 2 then ((varint_Zag.f 3).bind fun t161 => (if t161 = (-2) then ((varint_Zag.f 18446744073709551615).bind fun t162 => (some (t162 == (-9223372036854775808)))) else (none))) else (none))) else (none))) else (none))) else (none))) else (none)))) else (none)) else (none)) else (none)) else (none)) else (none)) else (none)) else (none)) else (none)) else (none))) = some r := H
  have A4 := Aside0.mk A40
  clear A40
  obtain ⟨y142, hy142⟩ : ∃ y_ : List Int, y_ = (([255, 255, 255, 255, 255, 255, 255, 255, 255, 1] : List Int)) := ⟨_, rfl⟩
  replace H : ((varint_Take.f k y142).bind fun bt145 => (if t121 = 300 then (if t122 = 2 then (if t123 = 0 then (if t129 = 3 then (if t135 = 2 then (if t141 = 3 then (if bt145.1 = 18446744073709551615 then (if bt145.2.1 = 10 then (if bt145.2.2 = 0 then ((hylit100000.f).bind fun t148 => ((varint_Put.f k t148 (([0, 127, 128] : List Int))).bind fun t154 => (if (strOfNums t154).toList = ([120, 0, 127, 128, 1] : List UInt8) then ((varint_Size.f k 127).bind fun t157 => (if t157 = 1 then ((varint_Size.f k 128).bind fun t158 => (if t158 = 2 then ((varint_Zig.f (-1)).bind fun t159 => (if t159 = 1 then ((varint_Zig.f 1).bind fun t160 => (if t160 = 2 then ((varint_Zag.f 3).bind fun t161 => (if t161 = (-2) then ((varint_Zag.f 18446744073709551615).bind fun t162 => (some (t162 == (-9223372036854775808)))) else (none))) else (none))) else (none))) else (none))) else (none))) else (none)))) else (none)) else (none)) else (none)) else (none)) else (none)) else (none)) else (none)) else (none)) else (none))) = some r := by first | (rw [hy142]; with_reducible exact H) | (have H2_ := (Option.bind_some _ _).symm.trans H; rw [hy142]; with_reducible exact H2_) | (have H2_ := (Option.bind_some _ _).symm.trans H; with_reducible exact H2_) | with_reducible exact H | (rw [hy142]; exact H) | exact H
  have Ny142 := Aside0.mk hy142
  clear hy142
  replace H := Option.bind_eq_some_iff.mp H
  obtain ⟨⟨t145, t146, t147⟩, A50, H⟩ := H
  replace H : (if t121 = 300 then (if t122 = 2 then (if t123 = 0 then (if t129 = 3 then (if t135 = 2 then (if t141 = 3 then (if t145 = 18446744073709551615 then (if t146 = 10 then (if t147 = 0 then ((hylit100000.f).bind fun t148 => ((varint_Put.f k t148 (([0, 127, 128] : List Int))).bind fun t154 => (if (strOfNums t154).toList = ([120, 0, 127, 128, 1] : List UInt8) then ((varint_Size.f k 127).bind fun t157 => (if t157 = 1 then ((varint_Size.f k 128).bind fun t158 => (if t158 = 2 then ((varint_Zig.f (-1)).bind fun t159 => (if t159 = 1 then ((varint_Zig.f 1).bind fun t160 => (if t160 = 2 then ((varint_Zag.f 3).bind fun t161 => (if t161 = (-2) then ((varint_Zag.f 18446744073709551615).bind fun t162 => (some (t162 == (-9223372036854775808)))) else (none))) else (none))) else (none))) else (none))) else (none))) else (none)))) else (none)) else (none)) else (none)) else (none)) else (none)) else (none)) else (none)) else (none)) else (none)) = some r := H
  have A5 := Aside0.mk A50
  clear A50
  by_cases c6 : t121 = 300
  · rw [if_pos c6] at H
    have c6b0 : (t121 == 300) = true := beq_iff_eq.mpr c6
    have c6b1 : (t121 != 300) = false := bne_eq_false_iff_eq.mpr c6
    clear c6
    by_cases c7 : t122 = 2
    · rw [if_pos c7] at H
      have c7b0 : (t122 == 2) = true := beq_iff_eq.mpr c7
      have c7b1 : (t122 != 2) = false := bne_eq_false_iff_eq.mpr c7
      clear c7
      by_cases c8 : t123 = 0
      · rw [if_pos c8] at H
        have c8b0 : (t123 == 0) = true := beq_iff_eq.mpr c8
        have c8b1 : (t123 != 0) = false := bne_eq_false_iff_eq.mpr c8
        clear c8
        by_cases c9 : t129 = 3
        · rw [if_pos c9] at H
          have c9b0 : (t129 == 3) = true := beq_iff_eq.mpr c9
          have c9b1 : (t129 != 3) = false := bne_eq_false_iff_eq.mpr c9
          clear c9
          by_cases c10 : t135 = 2
          · rw [if_pos c10] at H
            have c10b0 : (t135 == 2) = true := beq_iff_eq.mpr c10
            have c10b1 : (t135 != 2) = false := bne_eq_false_iff_eq.mpr c10
            clear c10
            by_cases c11 : t141 = 3
            · rw [if_pos c11] at H
              have c11b0 : (t141 == 3) = true := beq_iff_eq.mpr c11
              have c11b1 : (t141 != 3) = false := bne_eq_false_iff_eq.mpr c11
              clear c11
              by_cases c12 : t145 = 18446744073709551615
              · rw [if_pos c12] at H
                have c12b0 : (t145 == 18446744073709551615) = true := beq_iff_eq.mpr c12
                have c12b1 : (t145 != 18446744073709551615) = false := bne_eq_false_iff_eq.mpr c12
                clear c12
                by_cases c13 : t146 = 10
                · rw [if_pos c13] at H
                  have c13b0 : (t146 == 10) = true := beq_iff_eq.mpr c13
                  have c13b1 : (t146 != 10) = false := bne_eq_false_iff_eq.mpr c13
                  clear c13
                  by_cases c14 : t147 = 0
                  · rw [if_pos c14] at H
                    have c14b0 : (t147 == 0) = true := beq_iff_eq.mpr c14
                    have c14b1 : (t147 != 0) = false := bne_eq_false_iff_eq.mpr c14
                    clear c14
                    replace H := Option.bind_eq_some_iff.mp H
                    obtain ⟨t148, A150, H⟩ := H
                    replace H : ((varint_Put.f k t148 (([0, 127, 128] : List Int))).bind fun t154 => (if (strOfNums t154).toList = ([120, 0, 127, 128, 1] : List UInt8) then ((varint_Size.f k 127).bind fun t157 => (if t157 = 1 then ((varint_Size.f k 128).bind fun t158 => (if t158 = 2 then ((varint_Zig.f (-1)).bind fun t159 => (if t159 = 1 then ((varint_Zig.f 1).bind fun t160 => (if t160 = 2 then ((varint_Zag.f 3).bind fun t161 => (if t161 = (-2) then ((varint_Zag.f 18446744073709551615).bind fun t162 => (some (t162 == (-9223372036854775808)))) else (none))) else (none))) else (none))) else (none))) else (none))) else (none))) = some r := H
                    have A15 := Aside0.mk A150
                    clear A150
                    obtain ⟨y151, hy151⟩ : ∃ y_ : List Int, y_ = (([0, 127, 128] : List Int)) := ⟨_, rfl⟩
                    replace H : ((varint_Put.f k t148 y151).bind fun t154 => (if (strOfNums t154).toList = ([120, 0, 127, 128, 1] : List UInt8) then ((varint_Size.f k 127).bind fun t157 => (if t157 = 1 then ((varint_Size.f k 128).bind fun t158 => (if t158 = 2 then ((varint_Zig.f (-1)).bind fun t159 => (if t159 = 1 then ((varint_Zig.f 1).bind fun t160 => (if t160 = 2 then ((varint_Zag.f 3).bind fun t161 => (if t161 = (-2) then ((varint_Zag.f 18446744073709551615).bind fun t162 => (some (t162 == (-9223372036854775808)))) else (none))) else (none))) else (none))) else (none))) else (none))) else (none))) = some r := by first | (rw [hy151]; with_reducible exact H) | (have H2_ := (Option.bind_some _ _).symm.trans H; rw [hy151]; with_reducible exact H2_) | (have H2_ := (Option.bind_some _ _).symm.trans H; with_reducible exact H2_) | with_reducible exact H | (rw [hy151]; exact H) | exact H
                    have Ny151 := Aside0.mk hy151
                    clear hy151
                    replace H := Option.bind_eq_some_iff.mp H
                    obtain ⟨t154, A160, H⟩ := H
                    replace H : (if (strOfNums t154).toList = ([120, 0, 127, 128, 1] : List UInt8) then ((varint_Size.f k 127).bind fun t157 => (if t157 = 1 then ((varint_Size.f k 128).bind fun t158 => (if t158 = 2 then ((varint_Zig.f (-1)).bind fun t159 => (if t159 = 1 then ((varint_Zig.f 1).bind fun t160 => (if t160 = 2 then ((varint_Zag.f 3).bind fun t161 => (if t161 = (-2) then ((varint_Zag.f 18446744073709551615).bind fun t162 => (some (t162 == (-9223372036854775808)))) else (none))) else (none))) else (none))) else (none))) else (none))) else (none)) = some r := H
                    have A16 := Aside0.mk A160
                    clear A160
                    by_cases c17 : (strOfNums t154).toList = ([120, 0, 127, 128, 1] : List UInt8)
                    · rw [if_pos c17] at H
                      have c17b0 : ((strOfNums t154).toList == ([120, 0, 127, 128, 1] : List UInt8)) = true := beq_iff_eq.mpr c17
                      have c17b1 : ((strOfNums t154).toList != ([120, 0, 127, 128, 1] : List UInt8)) = false := bne_eq_false_iff_eq.mpr c17
                      clear c17
                      replace H := Option.bind_eq_some_iff.mp H
                      obtain ⟨t157, A180, H⟩ := H
                      replace H : (if t157 = 1 then ((varint_Size.f k 128).bind fun t158 => (if t158 = 2 then ((varint_Zig.f (-1)).bind fun t159 => (if t159 = 1 then ((varint_Zig.f 1).bind fun t160 => (if t160 = 2 then ((varint_Zag.f 3).bind fun t161 => (if t161 = (-2) then ((varint_Zag.f 18446744073709551615).bind fun t162 => (some (t162 == (-9223372036854775808)))) else (none))) else (none))) else (none))) else (none))) else (none)) = some r := H
                      have A18 := Aside0.mk A180
                      clear A180
                      by_cases c19 : t157 = 1
                      · rw [if_pos c19] at H
                        have c19b0 : (t157 == 1) = true := beq_iff_eq.mpr c19
                        have c19b1 : (t157 != 1) = false := bne_eq_false_iff_eq.mpr c19
                        clear c19
                        replace H := Option.bind_eq_some_iff.mp H
                        obtain ⟨t158, A200, H⟩ := H
                        replace H : (if t158 = 2 then ((varint_Zig.f (-1)).bind fun t159 => (if t159 = 1 then ((varint_Zig.f 1).bind fun t160 => (if t160 = 2 then ((varint_Zag.f 3).bind fun t161 => (if t161 = (-2) then ((varint_Zag.f 18446744073709551615).bind fun t162 => (some (t162 == (-9223372036854775808)))) else (none))) else (none))) else (none))) else (none)) = some r := H
                        have A20 := Aside0.mk A200
                        clear A200
                        by_cases c21 : t158 = 2
                        · rw [if_pos c21] at H
                          have c21b0 : (t158 == 2) = true := beq_iff_eq.mpr c21
                          have c21b1 : (t158 != 2) = false := bne_eq_false_iff_eq.mpr c21
                          clear c21
                          replace H := Option.bind_eq_some_iff.mp H
                          obtain ⟨t159, A220, H⟩ := H
                          replace H : (if t159 = 1 then ((varint_Zig.f 1).bind fun t160 => (if t160 = 2 then ((varint_Zag.f 3).bind fun t161 => (if t161 = (-2) then ((varint_Zag.f 18446744073709551615).bind fun t162 => (some (t162 == (-9223372036854775808)))) else (none))) else (none))) else (none)) = some r := H
                          have A22 := Aside0.mk A220
                          clear A220
                          by_cases c23 : t159 = 1
                          · rw [if_pos c23] at H
                            have c23b0 : (t159 == 1) = true := beq_iff_eq.mpr c23
                            have c23b1 : (t159 != 1) = false := bne_eq_false_iff_eq.mpr c23
                            clear c23
                            replace H := Option.bind_eq_some_iff.mp H
                            obtain ⟨t160, A240, H⟩ := H
                            replace H : (if t160 = 2 then ((varint_Zag.f 3).bind fun t161 => (if t161 = (-2) then ((varint_Zag.f 18446744073709551615).bind fun t162 => (some (t162 == (-9223372036854775808)))) else (none))) else (none)) = some r := H
                            have A24 := Aside0.mk A240
                            clear A240
                            by_cases c25 : t160 = 2
                            · rw [if_pos c25] at H
                              have c25b0 : (t160 == 2) = true := beq_iff_eq.mpr c25
                              have c25b1 : (t160 != 2) = false := bne_eq_false_iff_eq.mpr c25
                              clear c25
                              replace H := Option.bind_eq_some_iff.mp H
                              obtain ⟨t161, A260, H⟩ := H
                              replace H : (if t161 = (-2) then ((varint_Zag.f 18446744073709551615).bind fun t162 => (some (t162 == (-9223372036854775808)))) else (none)) = some r := H
                              have A26 := Aside0.mk A260
                              clear A260
                              by_cases c27 : t161 = (-2)
                              · rw [if_pos c27] at H
                                have c27b0 : (t161 == (-2)) = true := beq_iff_eq.mpr c27
                                have c27b1 : (t161 != (-2)) = false := bne_eq_false_iff_eq.mpr c27
                                clear c27
                                replace H := Option.bind_eq_some_iff.mp H
                                obtain ⟨t162, A280, H⟩ := H
                                replace H : (some (t162 == (-9223372036854775808))) = some r := H
                                have A28 := Aside0.mk A280
                                clear A280
                                obtain rfl := Option.some.inj H
                                go_enter Try.func9, Try.ntmps9
                                go_wp2_with (first | ((with_reducible refine gate_dst (N := 17) rfl ?_); (try (refine gate_guard (by rfl) ?_; dsimp only)); refine Kd.R_lit (Kd.int .u8) _ 5 ?hg (N := 17) ?hd (xs := ([172, 2, 9] : List Int)) (inner := [.int .u8 172, .int .u8 2, .int .u8 9]) (ok := fun _ => True) (okp := fun _ => True) ?hr ?hp (fun _ hk => hk) trivial (Below.refl _ _) (Nat.le_refl _) (by simp) ?_; (case hd => rfl); (case hg => rfl); (case hr => first | (go_simp; done) | (go_simp; rfl)); (case hp => exact (Reps.one (show Kd.M (Kd.int .u8) _ _ _ 172 [.int .u8 172] from rfl) (Reps.one (show Kd.M (Kd.int .u8) _ _ _ 2 [.int .u8 2] from rfl) (Reps.one (show Kd.M (Kd.int .u8) _ _ _ 9 [.int .u8 9] from rfl) (Reps.none _ _))))); intro v119 w29 ho30 hb hg_ hnew_; clear hg_ hnew_; (first | rw [← Ny118.out] at ho30 | (simp only [Int.reduceToNat] at ho30; rw [← Ny118.out] at ho30)); have n0_ := Aside0.mk (Kd.R_lower ho30 (below_size (by repeat (first | (with_reducible first | exact HB.out | apply below_alloc | apply pw_below_drewN | apply below_drew1) | exact HB.out)))); have n1_ := Aside0.mk (below_step (by repeat (first | (with_reducible first | exact HB.out | apply below_alloc | apply pw_below_drewN | apply below_drew1) | exact HB.out)) hb); clear HB; have HO120 := n0_; have HB := n1_; clear n0_ n1_; clear hb ho30; obtain ⟨Ao31, co31, eo31⟩ := Kd.R_slice HO120.out; subst eo31) | ((with_reducible refine gate_callee (f := 10) rfl ?_); refine goesL_ (some 18) rfl rfl Try.func10 (by kernel_rfl) rfl #[.slice Ao31 y118.length co31] rfl (by (try simp only [List.map_toArray, List.map_cons, List.map_nil]); first | done | rfl | (simp only [List.length_drop, List.length_take]; rfl)) ?_; (with_reducible refine (varint_Take.calls k _ _ y118 t121 t122 t123 _ ?side1 ?side2 A1.out).mono ?_); (case side1 => repeat (first | exact (Kd.R_reads' HO120.out).2.2 | (with_reducible refine Kd.C_alloc ?_ _) | (with_reducible refine Kd.C_drewN ?_ _) | (with_reducible refine Kd.C_drew ?_))); (case side2 => exact (Kd.R_reads' HO120.out).2.1); rintro e w' ⟨rfl, ⟨nd, rfl⟩⟩; refine ⟨_, rfl, ?_⟩) | ((with_reducible refine gate_dst (N := 23) rfl ?_); (try (refine gate_guard (by rfl) ?_; dsimp only)); refine Kd.R_lit (Kd.int .u8) _ 5 ?hg (N := 23) ?hd (xs := ([128, 0] : List Int)) (inner := [.int .u8 128, .int .u8 0]) (ok := fun _ => True) (okp := fun _ => True) ?hr ?hp (fun _ hk => hk) trivial (Below.refl _ _) (Nat.le_refl _) (by simp) ?_; (case hd => rfl); (case hg => rfl); (case hr => first | (go_simp; done) | (go_simp; rfl)); (case hp => exact (Reps.one (show Kd.M (Kd.int .u8) _ _ _ 128 [.int .u8 128] from rfl) (Reps.one (show Kd.M (Kd.int .u8) _ _ _ 0 [.int .u8 0] from rfl) (Reps.none _ _)))); intro v125 w32 ho33 hb hg_ hnew_; clear hg_ hnew_; (first | rw [← Ny124.out] at ho33 | (simp only [Int.reduceToNat] at ho33; rw [← Ny124.out] at ho33)); have n0_ := Aside0.mk (Kd.R_elder' (by (with_reducible repeat (first | apply Kd.R_alloc | apply Kd.R_drewN | apply Kd.R_drew)); exact HO120.out) (Kd.R_base ho33) hb); have n1_ := Aside0.mk (Kd.R_lower (Kd.R_new' ho33 (Kd.R_lt (by (with_reducible repeat (first | apply Kd.R_alloc | apply Kd.R_drewN | apply Kd.R_drew)); exact HO120.out))) (below_size (by repeat (first | (with_reducible first | exact HB.out | apply below_alloc | apply pw_below_drewN | apply below_drew1) | exact HB.out)))); have n2_ := Aside0.mk (below_step (by repeat (first | (with_reducible first | exact HB.out | apply below_alloc | apply pw_below_drewN | apply below_drew1) | exact HB.out)) hb); clear HO120; clear HB; have HO120 := n0_; have HO126 := n1_; have HB := n2_; clear n0_ n1_ n2_; clear hb ho33; obtain ⟨Ao34, co34, eo34⟩ := Kd.R_slice HO126.out; subst eo34) | ((with_reducible refine gate_callee (f := 10) rfl ?_); refine goesL_ (some 24) rfl rfl Try.func10 (by kernel_rfl) rfl #[.slice Ao34 y124.length co34] rfl (by (try simp only [List.map_toArray, List.map_cons, List.map_nil]); first | done | rfl | (simp only [List.length_drop, List.length_take]; rfl)) ?_; (with_reducible refine (varint_Take.calls k _ _ y124 t127 t128 t129 _ ?side1 ?side2 A2.out).mono ?_); (case side1 => repeat (first | exact (Kd.R_reads' HO126.out).2.2 | (with_reducible refine Kd.C_alloc ?_ _) | (with_reducible refine Kd.C_drewN ?_ _) | (with_reducible refine Kd.C_drew ?_))); (case side2 => exact (Kd.R_reads' HO126.out).2.1); rintro e w' ⟨rfl, ⟨nd, rfl⟩⟩; refine ⟨_, rfl, ?_⟩) | ((with_reducible refine gate_dst (N := 29) rfl ?_); (try (refine gate_guard (by rfl) ?_; dsimp only)); refine Kd.R_lit (Kd.int .u8) _ 5 ?hg (N := 29) ?hd (xs := ([128] : List Int)) (inner := [.int .u8 128]) (ok := fun _ => True) (okp := fun _ => True) ?hr ?hp (fun _ hk => hk) trivial (Below.refl _ _) (Nat.le_refl _) (by simp) ?_; (case hd => rfl); (case hg => rfl); (case hr => first | (go_simp; done) | (go_simp; rfl)); (case hp => exact (Reps.one (show Kd.M (Kd.int .u8) _ _ _ 128 [.int .u8 128] from rfl) (Reps.none _ _))); intro v131 w35 ho36 hb hg_ hnew_; clear hg_ hnew_; (first | rw [← Ny130.out] at ho36 | (simp only [Int.reduceToNat] at ho36; rw [← Ny130.out] at ho36)); have n0_ := Aside0.mk (Kd.R_elder' (by (with_reducible repeat (first | apply Kd.R_alloc | apply Kd.R_drewN | apply Kd.R_drew)); exact HO120.out) (Kd.R_base ho36) hb); have n1_ := Aside0.mk (Kd.R_elder' (by (with_reducible repeat (first | apply Kd.R_alloc | apply Kd.R_drewN | apply Kd.R_drew)); exact HO126.out) (Kd.R_base ho36) hb); have n2_ := Aside0.mk (Kd.R_lower (Kd.R_new' (Kd.R_new' ho36 (Kd.R_lt (by (with_reducible repeat (first | apply Kd.R_alloc | apply Kd.R_drewN | apply Kd.R_drew)); exact HO120.out))) (Kd.R_lt (by (with_reducible repeat (first | apply Kd.R_alloc | apply Kd.R_drewN | apply Kd.R_drew)); exact HO126.out))) (below_size (by repeat (first | (with_reducible first | exact HB.out | apply below_alloc | apply pw_below_drewN | apply below_drew1) | exact HB.out)))); have n3_ := Aside0.mk (below_step (by repeat (first | (with_reducible first | exact HB.out | apply below_alloc | apply pw_below_drewN | apply below_drew1) | exact HB.out)) hb); clear HO120; clear HO126; clear HB; have HO120 := n0_; have HO126 := n1_; have HO132 := n2_; have HB := n3_; clear n0_ n1_ n2_ n3_; clear hb ho36; obtain ⟨Ao37, co37, eo37⟩ := Kd.R_slice HO132.out; subst eo37) | ((with_reducible refine gate_callee (f := 10) rfl ?_); refine goesL_ (some 30) rfl rfl Try.func10 (by kernel_rfl) rfl #[.slice Ao37 y130.length co37] rfl (by (try simp only [List.map_toArray, List.map_cons, List.map_nil]); first | done | rfl | (simp only [List.length_drop, List.length_take]; rfl)) ?_; (with_reducible refine (varint_Take.calls k _ _ y130 t133 t134 t135 _ ?side1 ?side2 A3.out).mono ?_); (case side1 => repeat (first | exact (Kd.R_reads' HO132.out).2.2 | (with_reducible refine Kd.C_alloc ?_ _) | (with_reducible refine Kd.C_drewN ?_ _) | (with_reducible refine Kd.C_drew ?_))); (case side2 => exact (Kd.R_reads' HO132.out).2.1); rintro e w' ⟨rfl, ⟨nd, rfl⟩⟩; refine ⟨_, rfl, ?_⟩) | ((with_reducible refine gate_dst (N := 35) rfl ?_); (try (refine gate_guard (by rfl) ?_; dsimp only)); refine Kd.R_lit (Kd.int .u8) _ 5 ?hg (N := 35) ?hd (xs := ([255, 255, 255, 255, 255, 255, 255, 255, 255, 2] : List Int)) (inner := [.int .u8 255, .int .u8 255, .int .u8 255, .int .u8 255, .int .u8 255, .int .u8 255, .int .u8 255, .int .u8 255, .int .u8 255, .int .u8 2]) (ok := fun _ => True) (okp := fun _ => True) ?hr ?hp (fun _ hk => hk) trivial (Below.refl _ _) (Nat.le_refl _) (by simp) ?_; (case hd => rfl); (case hg => rfl); (case hr => first | (go_simp; done) | (go_simp; rfl)); (case hp => exact (Reps.one (show Kd.M (Kd.int .u8) _ _ _ 255 [.int .u8 255] from rfl) (Reps.one (show Kd.M (Kd.int .u8) _ _ _ 255 [.int .u8 255] from rfl) (Reps.one (show Kd.M (Kd.int .u8) _ _ _ 255 [.int .u8 255] from rfl) (Reps.one (show Kd.M (Kd.int .u8) _ _ _ 255 [.int .u8 255] from rfl) (Reps.one (show Kd.M (Kd.int .u8) _ _ _ 255 [.int .u8 255] from rfl) (Reps.one (show Kd.M (Kd.int .u8) _ _ _ 255 [.int .u8 255] from rfl) (Reps.one (show Kd.M (Kd.int .u8) _ _ _ 255 [.int .u8 255] from rfl) (Reps.one (show Kd.M (Kd.int .u8) _ _ _ 255 [.int .u8 255] from rfl) (Reps.one (show Kd.M (Kd.int .u8) _ _ _ 255 [.int .u8 255] from rfl) (Reps.one (show Kd.M (Kd.int .u8) _ _ _ 2 [.int .u8 2] from rfl) (Reps.none _ _)))))))))))); intro v137 w38 ho39 hb hg_ hnew_; clear hg_ hnew_; (first | rw [← Ny136.out] at ho39 | (simp only [Int.reduceToNat] at ho39; rw [← Ny136.out] at ho39)); have n0_ := Aside0.mk (Kd.R_elder' (by (with_reducible repeat (first | apply Kd.R_alloc | apply Kd.R_drewN | apply Kd.R_drew)); exact HO120.out) (Kd.R_base ho39) hb); have n1_ := Aside0.mk (Kd.R_elder' (by (with_reducible repeat (first | apply Kd.R_alloc | apply Kd.R_drewN | apply Kd.R_drew)); exact HO126.out) (Kd.R_base ho39) hb); have n2_ := Aside0.mk (Kd.R_elder' (by (with_reducible repeat (first | apply Kd.R_alloc | apply Kd.R_drewN | apply Kd.R_drew)); exact HO132.out) (Kd.R_base ho39) hb); have n3_ := Aside0.mk (Kd.R_lower (Kd.R_new' (Kd.R_new' (Kd.R_new' ho39 (Kd.R_lt (by (with_reducible repeat (first | apply Kd.R_alloc | apply Kd.R_drewN | apply Kd.R_drew)); exact HO120.out))) (Kd.R_lt (by (with_reducible repeat (first | apply Kd.R_alloc | apply Kd.R_drewN | apply Kd.R_drew)); exact HO126.out))) (Kd.R_lt (by (with_reducible repeat (first | apply Kd.R_alloc | apply Kd.R_drewN | apply Kd.R_drew)); exact HO132.out))) (below_size (by repeat (first | (with_reducible first | exact HB.out | apply below_alloc | apply pw_below_drewN | apply below_drew1) | exact HB.out)))); have n4_ := Aside0.mk (below_step (by repeat (first | (with_reducible first | exact HB.out | apply below_alloc | apply pw_below_drewN | apply below_drew1) | exact HB.out)) hb); clear HO120; clear HO126; clear HO132; clear HB; have HO120 := n0_; have HO126 := n1_; have HO132 := n2_; have HO138 := n3_; have HB := n4_; clear n0_ n1_ n2_ n3_ n4_; clear hb ho39; obtain ⟨Ao40, co40, eo40⟩ := Kd.R_slice HO138.out; subst eo40) | ((with_reducible refine gate_callee (f := 10) rfl ?_); refine goesL_ (some 36) rfl rfl Try.func10 (by kernel_rfl) rfl #[.slice Ao40 y136.length co40] rfl (by (try simp only [List.map_toArray, List.map_cons, List.map_nil]); first | done | rfl | (simp only [List.length_drop, List.length_take]; rfl)) ?_; (with_reducible refine (varint_Take.calls k _ _ y136 t139 t140 t141 _ ?side1 ?side2 A4.out).mono ?_); (case side1 => repeat (first | exact (Kd.R_reads' HO138.out).2.2 | (with_reducible refine Kd.C_alloc ?_ _) | (with_reducible refine Kd.C_drewN ?_ _) | (with_reducible refine Kd.C_drew ?_))); (case side2 => exact (Kd.R_reads' HO138.out).2.1); rintro e w' ⟨rfl, ⟨nd, rfl⟩⟩; refine ⟨_, rfl, ?_⟩) | ((with_reducible refine gate_dst (N := 41) rfl ?_); (try (refine gate_guard (by rfl) ?_; dsimp only)); refine Kd.R_lit (Kd.int .u8) _ 5 ?hg (N := 41) ?hd (xs := ([255, 255, 255, 255, 255, 255, 255, 255, 255, 1] : List Int)) (inner := [.int .u8 255, .int .u8 255, .int .u8 255, .int .u8 255, .int .u8 255, .int .u8 255, .int .u8 255, .int .u8 255, .int .u8 255, .int .u8 1]) (ok := fun _ => True) (okp := fun _ => True) ?hr ?hp (fun _ hk => hk) trivial (Below.refl _ _) (Nat.le_refl _) (by simp) ?_; (case hd => rfl); (case hg => rfl); (case hr => first | (go_simp; done) | (go_simp; rfl)); (case hp => exact (Reps.one (show Kd.M (Kd.int .u8) _ _ _ 255 [.int .u8 255] from rfl) (Reps.one (show Kd.M (Kd.int .u8) _ _ _ 255 [.int .u8 255] from rfl) (Reps.one (show Kd.M (Kd.int .u8) _ _ _ 255 [.int .u8 255] from rfl) (Reps.one (show Kd.M (Kd.int .u8) _ _ _ 255 [.int .u8 255] from rfl) (Reps.one (show Kd.M (Kd.int .u8) _ _ _ 255 [.int .u8 255] from rfl) (Reps.one (show Kd.M (Kd.int .u8) _ _ _ 255 [.int .u8 255] from rfl) (Reps.one (show Kd.M (Kd.int .u8) _ _ _ 255 [.int .u8 255] from rfl) (Reps.one (show Kd.M (Kd.int .u8) _ _ _ 255 [.int .u8 255] from rfl) (Reps.one (show Kd.M (Kd.int .u8) _ _ _ 255 [.int .u8 255] from rfl) (Reps.one (show Kd.M (Kd.int .u8) _ _ _ 1 [.int .u8 1] from rfl) (Reps.none _ _)))))))))))); intro v143 w41 ho42 hb hg_ hnew_; clear hg_ hnew_; (first | rw [← Ny142.out] at ho42 | (simp only [Int.reduceToNat] at ho42; rw [← Ny142.out] at ho42)); have n0_ := Aside0.mk (Kd.R_elder' (by (with_reducible repeat (first | apply Kd.R_alloc | apply Kd.R_drewN | apply Kd.R_drew)); exact HO120.out) (Kd.R_base ho42) hb); have n1_ := Aside0.mk (Kd.R_elder' (by (with_reducible repeat (first | apply Kd.R_alloc | apply Kd.R_drewN | apply Kd.R_drew)); exact HO126.out) (Kd.R_base ho42) hb); have n2_ := Aside0.mk (Kd.R_elder' (by (with_reducible repeat (first | apply Kd.R_alloc | apply Kd.R_drewN | apply Kd.R_drew)); exact HO132.out) (Kd.R_base ho42) hb); have n3_ := Aside0.mk (Kd.R_elder' (by (with_reducible repeat (first | apply Kd.R_alloc | apply Kd.R_drewN | apply Kd.R_drew)); exact HO138.out) (Kd.R_base ho42) hb); have n4_ := Aside0.mk (Kd.R_lower (Kd.R_new' (Kd.R_new' (Kd.R_new' (Kd.R_new' ho42 (Kd.R_lt (by (with_reducible repeat (first | apply Kd.R_alloc | apply Kd.R_drewN | apply Kd.R_drew)); exact HO120.out))) (Kd.R_lt (by (with_reducible repeat (first | apply Kd.R_alloc | apply Kd.R_drewN | apply Kd.R_drew)); exact HO126.out))) (Kd.R_lt (by (with_reducible repeat (first | apply Kd.R_alloc | apply Kd.R_drewN | apply Kd.R_drew)); exact HO132.out))) (Kd.R_lt (by (with_reducible repeat (first | apply Kd.R_alloc | apply Kd.R_drewN | apply Kd.R_drew)); exact HO138.out))) (below_size (by repeat (first | (with_reducible first | exact HB.out | apply below_alloc | apply pw_below_drewN | apply below_drew1) | exact HB.out)))); have n5_ := Aside0.mk (below_step (by repeat (first | (with_reducible first | exact HB.out | apply below_alloc | apply pw_below_drewN | apply below_drew1) | exact HB.out)) hb); clear HO120; clear HO126; clear HO132; clear HO138; clear HB; have HO120 := n0_; have HO126 := n1_; have HO132 := n2_; have HO138 := n3_; have HO144 := n4_; have HB := n5_; clear n0_ n1_ n2_ n3_ n4_ n5_; clear hb ho42; obtain ⟨Ao43, co43, eo43⟩ := Kd.R_slice HO144.out; subst eo43) | ((with_reducible refine gate_callee (f := 10) rfl ?_); refine goesL_ (some 42) rfl rfl Try.func10 (by kernel_rfl) rfl #[.slice Ao43 y142.length co43] rfl (by (try simp only [List.map_toArray, List.map_cons, List.map_nil]); first | done | rfl | (simp only [List.length_drop, List.length_take]; rfl)) ?_; (with_reducible refine (varint_Take.calls k _ _ y142 t145 t146 t147 _ ?side1 ?side2 A5.out).mono ?_); (case side1 => repeat (first | exact (Kd.R_reads' HO144.out).2.2 | (with_reducible refine Kd.C_alloc ?_ _) | (with_reducible refine Kd.C_drewN ?_ _) | (with_reducible refine Kd.C_drew ?_))); (case side2 => exact (Kd.R_reads' HO144.out).2.1); rintro e w' ⟨rfl, ⟨nd, rfl⟩⟩; refine ⟨_, rfl, ?_⟩) | ((with_reducible refine gate_dst (N := 82) rfl ?_); (try (refine gate_guard (by rfl) ?_; dsimp only)); refine lit_conv (by first | rfl | assumption) 22 5 (.tmp 81) rfl Try.underlying22 Try.underlying5 [120] _ rfl _ rfl (by simp) rfl ?_; intro v149 w44 ho0 hb; rw [show ([120] : List Int) = t148 from Option.some.inj A15.out] at ho0; have n0_ := Aside0.mk (Kd.R_below (by (with_reducible repeat (first | apply Kd.R_alloc | apply Kd.R_drewN | apply Kd.R_drew)); exact HO120.out) hb); have n1_ := Aside0.mk (Kd.R_below (by (with_reducible repeat (first | apply Kd.R_alloc | apply Kd.R_drewN | apply Kd.R_drew)); exact HO126.out) hb); have n2_ := Aside0.mk (Kd.R_below (by (with_reducible repeat (first | apply Kd.R_alloc | apply Kd.R_drewN | apply Kd.R_drew)); exact HO132.out) hb); have n3_ := Aside0.mk (Kd.R_below (by (with_reducible repeat (first | apply Kd.R_alloc | apply Kd.R_drewN | apply Kd.R_drew)); exact HO138.out) hb); have n4_ := Aside0.mk (Kd.R_below (by (with_reducible repeat (first | apply Kd.R_alloc | apply Kd.R_drewN | apply Kd.R_drew)); exact HO144.out) hb); have n5_ := Aside0.mk (Kd.V_lower (Kd.V_mono (ok' := fun k_ => some k_ ≠ (.slice Ao31 y118.length co31 : Value).ownBlock ∧ some k_ ≠ (.slice Ao34 y124.length co34 : Value).ownBlock ∧ some k_ ≠ (.slice Ao37 y130.length co37 : Value).ownBlock ∧ some k_ ≠ (.slice Ao40 y136.length co40 : Value).ownBlock ∧ some k_ ≠ (.slice Ao43 y142.length co43 : Value).ownBlock) ho0 (fun k_ hk_ => ⟨(Kd.fresh' (Kd.R_lt (by (with_reducible repeat (first | apply Kd.R_alloc | apply Kd.R_drewN | apply Kd.R_drew)); exact HO120.out)) k_ hk_), (Kd.fresh' (Kd.R_lt (by (with_reducible repeat (first | apply Kd.R_alloc | apply Kd.R_drewN | apply Kd.R_drew)); exact HO126.out)) k_ hk_), (Kd.fresh' (Kd.R_lt (by (with_reducible repeat (first | apply Kd.R_alloc | apply Kd.R_drewN | apply Kd.R_drew)); exact HO132.out)) k_ hk_), (Kd.fresh' (Kd.R_lt (by (with_reducible repeat (first | apply Kd.R_alloc | apply Kd.R_drewN | apply Kd.R_drew)); exact HO138.out)) k_ hk_), (Kd.fresh' (Kd.R_lt (by (with_reducible repeat (first | apply Kd.R_alloc | apply Kd.R_drewN | apply Kd.R_drew)); exact HO144.out)) k_ hk_)⟩)) (below_size (by repeat (first | (with_reducible first | exact HB.out | apply below_alloc | apply pw_below_drewN | apply below_drew1) | exact HB.out)))); have n6_ := Aside0.mk (below_step (by repeat (first | (with_reducible first | exact HB.out | apply below_alloc | apply pw_below_drewN | apply below_drew1) | exact HB.out)) hb); clear HO120; clear HO126; clear HO132; clear HO138; clear HO144; clear HB; have HO120 := n0_; have HO126 := n1_; have HO132 := n2_; have HO138 := n3_; have HO144 := n4_; have HO150 := n5_; have HB := n6_; clear n0_ n1_ n2_ n3_ n4_ n5_ n6_; (try clear hb); (try clear hb2); (try clear hk); (try clear hi); (try clear ho0)) | ((with_reducible refine gate_dst (N := 83) rfl ?_); (try (refine gate_guard (by rfl) ?_; dsimp only)); refine Kd.R_lit (Kd.int .u64) _ 25 ?hg (N := 83) ?hd (xs := ([0, 127, 128] : List Int)) (inner := [.int .u64 0, .int .u64 127, .int .u64 128]) (ok := fun _ => True) (okp := fun _ => True) ?hr ?hp (fun _ hk => hk) trivial (Below.refl _ _) (Nat.le_refl _) (by simp) ?_; (case hd => rfl); (case hg => rfl); (case hr => first | (go_simp; done) | (go_simp; rfl)); (case hp => exact (Reps.one (show Kd.M (Kd.int .u64) _ _ _ 0 [.int .u64 0] from rfl) (Reps.one (show Kd.M (Kd.int .u64) _ _ _ 127 [.int .u64 127] from rfl) (Reps.one (show Kd.M (Kd.int .u64) _ _ _ 128 [.int .u64 128] from rfl) (Reps.none _ _))))); intro v152 w45 ho46 hb hg_ hnew_; clear hg_ hnew_; (first | rw [← Ny151.out] at ho46 | (simp only [Int.reduceToNat] at ho46; rw [← Ny151.out] at ho46)); have n0_ := Aside0.mk (Kd.R_below (by (with_reducible repeat (first | apply Kd.R_alloc | apply Kd.R_drewN | apply Kd.R_drew)); exact HO120.out) hb); have n1_ := Aside0.mk (Kd.R_below (by (with_reducible repeat (first | apply Kd.R_alloc | apply Kd.R_drewN | apply Kd.R_drew)); exact HO126.out) hb); have n2_ := Aside0.mk (Kd.R_below (by (with_reducible repeat (first | apply Kd.R_alloc | apply Kd.R_drewN | apply Kd.R_drew)); exact HO132.out) hb); have n3_ := Aside0.mk (Kd.R_below (by (with_reducible repeat (first | apply Kd.R_alloc | apply Kd.R_drewN | apply Kd.R_drew)); exact HO138.out) hb); have n4_ := Aside0.mk (Kd.R_below (by (with_reducible repeat (first | apply Kd.R_alloc | apply Kd.R_drewN | apply Kd.R_drew)); exact HO144.out) hb); have n5_ := Aside0.mk (Kd.V_elder' (by (with_reducible repeat (first | apply Kd.V_alloc | apply Kd.V_drewN | apply Kd.V_drew)); exact HO150.out) (Kd.R_base ho46) hb); have n6_ := Aside0.mk (Kd.R_lower ho46 (below_size (by repeat (first | (with_reducible first | exact HB.out | apply below_alloc | apply pw_below_drewN | apply below_drew1) | exact HB.out)))); have n7_ := Aside0.mk (below_step (by repeat (first | (with_reducible first | exact HB.out | apply below_alloc | apply pw_below_drewN | apply below_drew1) | exact HB.out)) hb); clear HO120; clear HO126; clear HO132; clear HO138; clear HO144; clear HO150; clear HB; have HO120 := n0_; have HO126 := n1_; have HO132 := n2_; have HO138 := n3_; have HO144 := n4_; have HO150 := n5_; have HO153 := n6_; have HB := n7_; clear n0_ n1_ n2_ n3_ n4_ n5_ n6_ n7_; clear hb ho46; obtain ⟨Ao47, co47, eo47⟩ := Kd.V_slice HO150.out; subst eo47; obtain ⟨Ao48, co48, eo48⟩ := Kd.R_slice HO153.out; subst eo48) | (go_at_call 12; (with_reducible refine (varint_Put.calls k _ _ t148 _ _ y151 t154 _ ?side1 ?side2 ?side3 ?side4 A16.out).mono ?_); (case side1 => repeat (first | exact (Kd.V_reads' HO150.out).2.2 | (with_reducible refine Kd.C_alloc ?_ _) | (with_reducible refine Kd.C_drewN ?_ _) | (with_reducible refine Kd.C_drew ?_))); (case side2 => exact (Kd.V_reads' HO150.out).2.1); (case side3 => repeat (first | exact (Kd.R_reads' HO153.out).2.2 | (with_reducible refine Kd.C_alloc ?_ _) | (with_reducible refine Kd.C_drewN ?_ _) | (with_reducible refine Kd.C_drew ?_))); (case side4 => exact (Kd.R_reads' HO153.out).2.1); rintro e w49 ⟨v155, rfl, ho0, hb⟩; have n0_ := Aside0.mk (Kd.R_elder' (by (with_reducible repeat (first | apply Kd.R_alloc | apply Kd.R_drewN | apply Kd.R_drew)); exact HO120.out) (Kd.R_base ho0) hb); have n1_ := Aside0.mk (Kd.R_elder' (by (with_reducible repeat (first | apply Kd.R_alloc | apply Kd.R_drewN | apply Kd.R_drew)); exact HO126.out) (Kd.R_base ho0) hb); have n2_ := Aside0.mk (Kd.R_elder' (by (with_reducible repeat (first | apply Kd.R_alloc | apply Kd.R_drewN | apply Kd.R_drew)); exact HO132.out) (Kd.R_base ho0) hb); have n3_ := Aside0.mk (Kd.R_elder' (by (with_reducible repeat (first | apply Kd.R_alloc | apply Kd.R_drewN | apply Kd.R_drew)); exact HO138.out) (Kd.R_base ho0) hb); have n4_ := Aside0.mk (Kd.R_elder' (by (with_reducible repeat (first | apply Kd.R_alloc | apply Kd.R_drewN | apply Kd.R_drew)); exact HO144.out) (Kd.R_base ho0) hb); have n5_ := Aside0.mk (Kd.V_elder' (by (with_reducible repeat (first | apply Kd.V_alloc | apply Kd.V_drewN | apply Kd.V_drew)); exact HO150.out) (Kd.R_base ho0) hb); have n6_ := Aside0.mk (Kd.R_below (by (with_reducible repeat (first | apply Kd.R_alloc | apply Kd.R_drewN | apply Kd.R_drew)); exact HO153.out) hb); have n7_ := Aside0.mk (Kd.R_lower (Kd.R_new' (Kd.R_new' (Kd.R_new' (Kd.R_new' (Kd.R_new' ho0 (Kd.R_lt (by (with_reducible repeat (first | apply Kd.R_alloc | apply Kd.R_drewN | apply Kd.R_drew)); exact HO120.out))) (Kd.R_lt (by (with_reducible repeat (first | apply Kd.R_alloc | apply Kd.R_drewN | apply Kd.R_drew)); exact HO126.out))) (Kd.R_lt (by (with_reducible repeat (first | apply Kd.R_alloc | apply Kd.R_drewN | apply Kd.R_drew)); exact HO132.out))) (Kd.R_lt (by (with_reducible repeat (first | apply Kd.R_alloc | apply Kd.R_drewN | apply Kd.R_drew)); exact HO138.out))) (Kd.R_lt (by (with_reducible repeat (first | apply Kd.R_alloc | apply Kd.R_drewN | apply Kd.R_drew)); exact HO144.out))) (below_size (by repeat (first | (with_reducible first | exact HB.out | apply below_alloc | apply pw_below_drewN | apply below_drew1) | exact HB.out)))); have n8_ := Aside0.mk (below_step (by repeat (first | (with_reducible first | exact HB.out | apply below_alloc | apply pw_below_drewN | apply below_drew1) | exact HB.out)) hb); clear HO120; clear HO126; clear HO132; clear HO138; clear HO144; clear HO150; clear HO153; clear HB; have HO120 := n0_; have HO126 := n1_; have HO132 := n2_; have HO138 := n3_; have HO144 := n4_; have HO150 := n5_; have HO153 := n6_; have HO156 := n7_; have HB := n8_; clear n0_ n1_ n2_ n3_ n4_ n5_ n6_ n7_ n8_; (try clear hb); (try clear hb2); (try clear hk); (try clear hi); (try clear ho0); have hcv50 := own_string (P := Try.prog) Try.underlying22 Try.underlying5 Try.underlying9 (Kd.own_of_R HO156.out)) | (go_at_call 16; (with_reducible refine (varint_Size.calls k 127 t157 _ A18.out).mono ?_); rintro e w' ⟨rfl, ⟨nd, rfl⟩⟩) | (go_at_call 16; (with_reducible refine (varint_Size.calls k 128 t158 _ A20.out).mono ?_); rintro e w' ⟨rfl, ⟨nd, rfl⟩⟩) | (go_at_call 14; (with_reducible refine (varint_Zig.calls (-1) t159 _ A22.out).mono ?_); rintro e w' ⟨rfl, ⟨nd, rfl⟩⟩) | (go_at_call 14; (with_reducible refine (varint_Zig.calls 1 t160 _ A24.out).mono ?_); rintro e w' ⟨rfl, ⟨nd, rfl⟩⟩) | (go_at_call 18; (with_reducible refine (varint_Zag.calls 3 t161 _ A26.out).mono ?_); rintro e w' ⟨rfl, ⟨nd, rfl⟩⟩) | (go_at_call 18; (with_reducible refine (varint_Zag.calls 18446744073709551615 t162 _ A28.out).mono ?_); rintro e w' ⟨rfl, ⟨nd, rfl⟩⟩))
                                go_ret
                                exact ⟨by first | rfl | (simp [errW_none, errW_some] <;> rfl) | (simp [*, errW_none, errW_some] <;> rfl), by repeat (first | (with_reducible first | exact HB.out | apply below_alloc | apply pw_below_drewN | apply below_drew1) | exact HB.out)⟩
                              · rw [if_neg c27] at H
                                exact absurd H (by simp)
                            · rw [if_neg c25] at H
                              exact absurd H (by simp)
                          · rw [if_neg c23] at H
                            exact absurd H (by simp)
                        · rw [if_neg c21] at H
                          exact absurd H (by simp)
                      · rw [if_neg c19] at H
                        exact absurd H (by simp)
                    · rw [if_neg c17] at H
                      exact absurd H (by simp)
                  · rw [if_neg c14] at H
                    exact absurd H (by simp)
                · rw [if_neg c13] at H
                  exact absurd H (by simp)
              · rw [if_neg c12] at H
                exact absurd H (by simp)
            · rw [if_neg c11] at H
              exact absurd H (by simp)
          · rw [if_neg c10] at H
            exact absurd H (by simp)
        · rw [if_neg c9] at H
          exact absurd H (by simp)
      · rw [if_neg c8] at H
        exact absurd H (by simp)
    · rw [if_neg c7] at H
      exact absurd H (by simp)
  · rw [if_neg c6] at H
    exact absurd H (by simp)

/-! ### decklelaw03_VarintZigs: function 7 -/
def decklelaw03_VarintZigs.j0 : Nat → Int → Int → Bool → Int → Bool → Option (Bool)
  | 0, _, _, _, _, _ => none
  | k + 1, x0, x1, x5, x6, x32 => if x32 = true then (none) else (if x5 = true then ((varint_Zag.f x6).bind fun t165 => (if t165 = x0 then ((varint_Zag.f x1).bind fun t166 => ((varint_Zig.f t166).bind fun t167 => (some (t167 == x1)))) else (none))) else (none))
def decklelaw03_VarintZigs.f (k : Nat) (a0 : Int) (a1 : Int) : Option (Bool) := (decklelaw03_small.f k).bind fun t163 => ((varint_Zig.f a0).bind fun t164 => (if a0 ≥ 0 then (if t164 = (IntKind.u64.wrap (2 * (IntKind.u64.wrap (a0)))) then (if a0 < 0 then (decklelaw03_VarintZigs.j0 k a0 a1 t163 t164 (t164 != (IntKind.u64.wrap ((IntKind.u64.wrap (2 * (IntKind.u64.wrap (wrap64 (-(wrap64 (a0 + 1))))))) + 1)))) else (decklelaw03_VarintZigs.j0 k a0 a1 t163 t164 false)) else (decklelaw03_VarintZigs.j0 k a0 a1 t163 t164 true)) else (if a0 < 0 then (decklelaw03_VarintZigs.j0 k a0 a1 t163 t164 (t164 != (IntKind.u64.wrap ((IntKind.u64.wrap (2 * (IntKind.u64.wrap (wrap64 (-(wrap64 (a0 + 1))))))) + 1)))) else (decklelaw03_VarintZigs.j0 k a0 a1 t163 t164 false))))
theorem decklelaw03_VarintZigs.mono_l : ∀ k, (∀ y0 y1 y2 y3 y4, LeO (decklelaw03_VarintZigs.j0 k y0 y1 y2 y3 y4) (decklelaw03_VarintZigs.j0 (k + 1) y0 y1 y2 y3 y4))
  | 0 => fun _ _ _ _ _ r h => by simp [decklelaw03_VarintZigs.j0] at h
  | k + 1 => by
    have ih0 := decklelaw03_VarintZigs.mono_l k
    · intro y0 y1 y2 y3 y4
      unfold decklelaw03_VarintZigs.j0
      repeat' first
      | (with_reducible exact ih0 _ _ _ _ _)
      | (with_reducible exact decklelaw03_small.mono _)
      | (with_reducible exact LeO.refl _)
      | (with_reducible exact LeO.none _)
      | (with_reducible refine LeO.ite ?_ ?_)
      | (with_reducible refine LeO.bind ?_ (fun _ => ?_))
      | exact ih0 _ _ _ _ _
      | exact decklelaw03_small.mono _
      | exact LeO.none _
      | refine LeO.ite ?_ ?_
      | refine LeO.bind ?_ (fun _ => ?_)
theorem decklelaw03_VarintZigs.mono : ∀ a0 a1 k, LeO (decklelaw03_VarintZigs.f k a0 a1) (decklelaw03_VarintZigs.f (k + 1) a0 a1) := by
  intro a0 a1 k
  have ih0 := decklelaw03_VarintZigs.mono_l k
  unfold decklelaw03_VarintZigs.f
  repeat' first
      | (with_reducible exact ih0 _ _ _ _ _)
      | (with_reducible exact decklelaw03_small.mono _)
      | (with_reducible exact LeO.refl _)
      | (with_reducible exact LeO.none _)
      | (with_reducible refine LeO.ite ?_ ?_)
      | (with_reducible refine LeO.bind ?_ (fun _ => ?_))
      | exact ih0 _ _ _ _ _
      | exact decklelaw03_small.mono _
      | exact LeO.none _
      | refine LeO.ite ?_ ?_
      | refine LeO.bind ?_ (fun _ => ?_)
set_option maxHeartbeats 8000000 in
set_option maxRecDepth 100000 in
theorem decklelaw03_VarintZigs.calls (k : Nat) (a0 : Int) (a1 : Int) (r : Bool) (w : World) (h : decklelaw03_VarintZigs.f k a0 a1 = some r) :
    Calls Try.prog 7 #[.int .i64 a0, .int .u64 a1] w fun e w' => e = .returned (.bool r) ∧ Below w.heap.size w w' := by
  have HB := Aside0.mk (Below.refl w.heap.size w)
  have H : ((decklelaw03_small.f k).bind fun t163 => ((varint_Zig.f a0).bind fun t164 => (if a0 ≥ 0 then (if t164 = (IntKind.u64.wrap (2 * (IntKind.u64.wrap (a0)))) then (if a0 < 0 then (decklelaw03_VarintZigs.j0 k a0 a1 t163 t164 (t164 != (IntKind.u64.wrap ((IntKind.u64.wrap (2 * (IntKind.u64.wrap (wrap64 (-(wrap64 (a0 + 1))))))) + 1)))) else (decklelaw03_VarintZigs.j0 k a0 a1 t163 t164 false)) else (decklelaw03_VarintZigs.j0 k a0 a1 t163 t164 true)) else (if a0 < 0 then (decklelaw03_VarintZigs.j0 k a0 a1 t163 t164 (t164 != (IntKind.u64.wrap ((IntKind.u64.wrap (2 * (IntKind.u64.wrap (wrap64 (-(wrap64 (a0 + 1))))))) + 1)))) else (decklelaw03_VarintZigs.j0 k a0 a1 t163 t164 false))))) = some r := h
  clear h
  replace H := Option.bind_eq_some_iff.mp H
  obtain ⟨t163, A30, H⟩ := H
  replace H : ((varint_Zig.f a0).bind fun t164 => (if a0 ≥ 0 then (if t164 = (IntKind.u64.wrap (2 * (IntKind.u64.wrap (a0)))) then (if a0 < 0 then (decklelaw03_VarintZigs.j0 k a0 a1 t163 t164 (t164 != (IntKind.u64.wrap ((IntKind.u64.wrap (2 * (IntKind.u64.wrap (wrap64 (-(wrap64 (a0 + 1))))))) + 1)))) else (decklelaw03_VarintZigs.j0 k a0 a1 t163 t164 false)) else (decklelaw03_VarintZigs.j0 k a0 a1 t163 t164 true)) else (if a0 < 0 then (decklelaw03_VarintZigs.j0 k a0 a1 t163 t164 (t164 != (IntKind.u64.wrap ((IntKind.u64.wrap (2 * (IntKind.u64.wrap (wrap64 (-(wrap64 (a0 + 1))))))) + 1)))) else (decklelaw03_VarintZigs.j0 k a0 a1 t163 t164 false)))) = some r := H
  have A3 := Aside0.mk A30
  clear A30
  replace H := Option.bind_eq_some_iff.mp H
  obtain ⟨t164, A40, H⟩ := H
  replace H : (if a0 ≥ 0 then (if t164 = (IntKind.u64.wrap (2 * (IntKind.u64.wrap (a0)))) then (if a0 < 0 then (decklelaw03_VarintZigs.j0 k a0 a1 t163 t164 (t164 != (IntKind.u64.wrap ((IntKind.u64.wrap (2 * (IntKind.u64.wrap (wrap64 (-(wrap64 (a0 + 1))))))) + 1)))) else (decklelaw03_VarintZigs.j0 k a0 a1 t163 t164 false)) else (decklelaw03_VarintZigs.j0 k a0 a1 t163 t164 true)) else (if a0 < 0 then (decklelaw03_VarintZigs.j0 k a0 a1 t163 t164 (t164 != (IntKind.u64.wrap ((IntKind.u64.wrap (2 * (IntKind.u64.wrap (wrap64 (-(wrap64 (a0 + 1))))))) + 1)))) else (decklelaw03_VarintZigs.j0 k a0 a1 t163 t164 false))) = some r := H
  have A4 := Aside0.mk A40
  clear A40
  have HC5 := Aside0.mk H
  clear H
  go_enter Try.func7, Try.ntmps7
  go_upto_region 3 with (first | ((with_reducible refine gate_callee (f := 9) rfl ?_); refine goesL_ (some 7) rfl rfl Try.func9 (by kernel_rfl) rfl #[] rfl (by (try simp only [List.map_toArray, List.map_cons, List.map_nil]); first | done | rfl | (simp only [List.length_drop, List.length_take]; rfl)) ?_; (with_reducible refine (decklelaw03_small.calls k  t163 _ A3.out).mono ?_); rintro e w6 ⟨rfl, hb⟩; refine ⟨_, rfl, ?_⟩; have n0_ := Aside0.mk (below_step (by repeat (first | (with_reducible first | exact HB.out | apply below_alloc | apply pw_below_drewN | apply below_drew1) | exact HB.out)) hb); clear HB; have HB := n0_; clear n0_; (try clear hb); (try clear hb2); (try clear hk); (try clear hi)) | ((with_reducible refine gate_callee (f := 14) rfl ?_); refine goesL_ (some 9) rfl rfl Try.func14 (by kernel_rfl) rfl #[.int .i64 a0] rfl (by (try simp only [List.map_toArray, List.map_cons, List.map_nil]); first | done | rfl | (simp only [List.length_drop, List.length_take]; rfl)) ?_; (with_reducible refine (varint_Zig.calls a0 t164 _ A4.out).mono ?_); rintro e w' ⟨rfl, ⟨nd, rfl⟩⟩; refine ⟨_, rfl, ?_⟩))
  (try simp only [Act.put, List.setIfInBounds_toArray, List.set_cons_zero, List.set_cons_succ])
  go_cut [32] (fun v32 wc => ∃ (kq : Nat) (x32_4 : Bool), v32 = .bool x32_4 ∧ Aside0 (decklelaw03_VarintZigs.j0 kq a0 a1 t163 t164 x32_4 = some r) ∧ Aside0 (kq ≤ k) ∧ Aside0 (Below w.heap.size w wc))
  case first =>
    have H := HC5.out
    clear HC5
    by_cases c7 : a0 ≥ 0
    · rw [if_pos c7] at H
      have c7b0 : decide (0 ≤ a0) = true := decide_eq_true c7
      clear c7
      (first | rw [c7b0] | (simp only [i64_w, i32_w]; rw [c7b0]) | skip)
      by_cases c8 : t164 = (IntKind.u64.wrap (2 * (IntKind.u64.wrap (a0))))
      · rw [if_pos c8] at H
        have c8b0 : (t164 == (IntKind.u64.wrap (2 * (IntKind.u64.wrap (a0))))) = true := beq_iff_eq.mpr c8
        have c8b1 : (t164 != (IntKind.u64.wrap (2 * (IntKind.u64.wrap (a0))))) = false := bne_eq_false_iff_eq.mpr c8
        clear c8
        by_cases c9 : a0 < 0
        · rw [if_pos c9] at H
          have c9b0 : decide (a0 < 0) = true := decide_eq_true c9
          clear c9
          have H' := Aside0.mk H
          clear H
          go_wp2
          go_meet
          case rel => exact ⟨_, ((t164 != (IntKind.u64.wrap ((IntKind.u64.wrap (2 * (IntKind.u64.wrap (wrap64 (-(wrap64 (a0 + 1))))))) + 1)))), (by first | rfl | (simp; done) | (simp [*]; done)), H', ⟨by first | omega | exact Nat.le_refl _⟩, ⟨by repeat (first | (with_reducible first | exact HB.out | apply below_alloc | apply pw_below_drewN | apply below_drew1) | exact HB.out)⟩⟩
        · rw [if_neg c9] at H
          have c9b0 : decide (a0 < 0) = false := decide_eq_false c9
          clear c9
          have H' := Aside0.mk H
          clear H
          go_wp2
          go_meet
          case rel => exact ⟨_, (false), (by first | rfl | (simp; done) | (simp [*]; done)), H', ⟨by first | omega | exact Nat.le_refl _⟩, ⟨by repeat (first | (with_reducible first | exact HB.out | apply below_alloc | apply pw_below_drewN | apply below_drew1) | exact HB.out)⟩⟩
      · rw [if_neg c8] at H
        have c8b0 : (t164 == (IntKind.u64.wrap (2 * (IntKind.u64.wrap (a0))))) = false := beq_eq_false_iff_ne.mpr c8
        have c8b1 : (t164 != (IntKind.u64.wrap (2 * (IntKind.u64.wrap (a0))))) = true := bne_iff_ne.mpr c8
        have H' := Aside0.mk H
        clear H
        go_wp2
        go_meet
        case rel => exact ⟨_, (true), (by first | rfl | (simp; done) | (simp [*]; done)), H', ⟨by first | omega | exact Nat.le_refl _⟩, ⟨by repeat (first | (with_reducible first | exact HB.out | apply below_alloc | apply pw_below_drewN | apply below_drew1) | exact HB.out)⟩⟩
    · rw [if_neg c7] at H
      have c7b0 : decide (0 ≤ a0) = false := decide_eq_false c7
      clear c7
      (first | rw [c7b0] | (simp only [i64_w, i32_w]; rw [c7b0]) | skip)
      by_cases c10 : a0 < 0
      · rw [if_pos c10] at H
        have c10b0 : decide (a0 < 0) = true := decide_eq_true c10
        clear c10
        have H' := Aside0.mk H
        clear H
        go_wp2
        go_meet
        case rel => exact ⟨_, ((t164 != (IntKind.u64.wrap ((IntKind.u64.wrap (2 * (IntKind.u64.wrap (wrap64 (-(wrap64 (a0 + 1))))))) + 1)))), (by first | rfl | (simp; done) | (simp [*]; done)), H', ⟨by first | omega | exact Nat.le_refl _⟩, ⟨by repeat (first | (with_reducible first | exact HB.out | apply below_alloc | apply pw_below_drewN | apply below_drew1) | exact HB.out)⟩⟩
      · rw [if_neg c10] at H
        have c10b0 : decide (a0 < 0) = false := decide_eq_false c10
        clear c10
        have H' := Aside0.mk H
        clear H
        go_wp2
        go_meet
        case rel => exact ⟨_, (false), (by first | rfl | (simp; done) | (simp [*]; done)), H', ⟨by first | omega | exact Nat.le_refl _⟩, ⟨by repeat (first | (with_reducible first | exact HB.out | apply below_alloc | apply pw_below_drewN | apply below_drew1) | exact HB.out)⟩⟩
  case rest =>
    clear HC5
    try clear c1
    try clear p2
    try clear p6
    try clear c7
    try clear c7b0
    try clear c8
    try clear c8b0
    try clear c8b1
    try clear c9
    try clear c9b0
    try clear c10
    try clear c10b0
    obtain ⟨kq, x32_4, rfl, HA, HJ4, HB⟩ := hcut
    cases kq with
    | zero => exact absurd HA.out (by simp [decklelaw03_VarintZigs.j0])
    | succ kj4 =>
      have H := HA.out
      clear HA
      simp only [decklelaw03_VarintZigs.j0] at H
      by_cases c11 : x32_4 = true
      · subst c11
        have H1 : (none) = some r := by rw [if_pos rfl] at H; exact H
        clear H
        have H := H1
        clear H1
        exact absurd H (by simp)
      · replace c11 := Bool.eq_false_iff.mpr c11
        subst c11
        have H1 : (if t163 = true then ((varint_Zag.f t164).bind fun t165 => (if t165 = a0 then ((varint_Zag.f a1).bind fun t166 => ((varint_Zig.f t166).bind fun t167 => (some (t167 == a1)))) else (none))) else (none)) = some r := by rw [if_neg (show ¬ (false = true) by decide)] at H; exact H
        clear H
        have H := H1
        clear H1
        by_cases c12 : t163 = true
        · subst c12
          have H1 : ((varint_Zag.f t164).bind fun t165 => (if t165 = a0 then ((varint_Zag.f a1).bind fun t166 => ((varint_Zig.f t166).bind fun t167 => (some (t167 == a1)))) else (none))) = some r := by rw [if_pos rfl] at H; exact H
          clear H
          have H := H1
          clear H1
          replace H := Option.bind_eq_some_iff.mp H
          obtain ⟨t165, A130, H⟩ := H
          replace H : (if t165 = a0 then ((varint_Zag.f a1).bind fun t166 => ((varint_Zig.f t166).bind fun t167 => (some (t167 == a1)))) else (none)) = some r := H
          have A13 := Aside0.mk A130
          clear A130
          by_cases c14 : t165 = a0
          · rw [if_pos c14] at H
            have c14b0 : (t165 == a0) = true := beq_iff_eq.mpr c14
            have c14b1 : (t165 != a0) = false := bne_eq_false_iff_eq.mpr c14
            clear c14
            replace H := Option.bind_eq_some_iff.mp H
            obtain ⟨t166, A150, H⟩ := H
            replace H : ((varint_Zig.f t166).bind fun t167 => (some (t167 == a1))) = some r := H
            have A15 := Aside0.mk A150
            clear A150
            replace H := Option.bind_eq_some_iff.mp H
            obtain ⟨t167, A160, H⟩ := H
            replace H : (some (t167 == a1)) = some r := H
            have A16 := Aside0.mk A160
            clear A160
            obtain rfl := Option.some.inj H
            go_wp2_with (first | (go_at_call 18; (with_reducible refine (varint_Zag.calls t164 t165 _ A13.out).mono ?_); rintro e w' ⟨rfl, ⟨nd, rfl⟩⟩) | (go_at_call 18; (with_reducible refine (varint_Zag.calls a1 t166 _ A15.out).mono ?_); rintro e w' ⟨rfl, ⟨nd, rfl⟩⟩) | (go_at_call 14; (with_reducible refine (varint_Zig.calls t166 t167 _ A16.out).mono ?_); rintro e w' ⟨rfl, ⟨nd, rfl⟩⟩))
            go_ret
            exact ⟨by first | rfl | (simp [errW_none, errW_some] <;> rfl) | (simp [*, errW_none, errW_some] <;> rfl), by repeat (first | (with_reducible first | exact HB.out | apply below_alloc | apply pw_below_drewN | apply below_drew1) | exact HB.out)⟩
          · rw [if_neg c14] at H
            exact absurd H (by simp)
        · replace c12 := Bool.eq_false_iff.mpr c12
          subst c12
          have H1 : (none) = some r := by rw [if_neg (show ¬ (false = true) by decide)] at H; exact H
          clear H
          have H := H1
          clear H1
          exact absurd H (by simp)

/-- THE ONE PURE STATEMENT of decklelaw03_VarintZigs: yours. -/
def decklelaw03_VarintZigs.Pure : Prop := ∀ (a0 : Int) (a1 : Int), (Lit.int .i64 a0).wf = true → (Lit.int .u64 a1).wf = true → ∃ k, decklelaw03_VarintZigs.f k a0 a1 = some true
theorem decklelaw03_VarintZigs.walk (P : decklelaw03_VarintZigs.Pure) (a0 : Int) (a1 : Int) (w : World) (w0 : (Lit.int .i64 a0).wf = true) (w1 : (Lit.int .u64 a1).wf = true) :
    Calls Try.prog 7 #[.int .i64 a0, .int .u64 a1] w fun e w' => e = .returned (.bool true) ∧ Below w.heap.size w w' := by
  obtain ⟨k, h⟩ := P a0 a1 w0 w1
  refine (decklelaw03_VarintZigs.calls k a0 a1 true w h).mono ?_
  rintro e w' ⟨rfl, hd⟩
  exact ⟨rfl, hd⟩

end Go.Proofs.Ytamcgfnmnlpneaa.HVarintZigs
