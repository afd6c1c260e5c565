-- Written by the session's program hy.py.
import Derived.Test.YtamcgfnmnlpneaaHVarintBackx0
import Derived.Test.YtamcgfnmnlpneaaHVarintBackx1
namespace Go.Proofs.Ytamcgfnmnlpneaa.HVarintBack
open Go.RowKit Go.Proofs.YtamcgfnmnlpneaaW.PrintWords Go.Proofs.YtamcgfnmnlpneaaW.PrintLast Go.Proofs.YtamcgfnmnlpneaaW.PrintMore
attribute [local go_sem] max2_int min2_int max_two min_two max_three min_three max_four min_four   -- for this text's walks alone
set_option linter.unusedVariables false
set_option linter.unusedSimpArgs false

/-! ### decklelaw03_small: function 9 -/
theorem lit_conv {P : Program} {ops : Array Oper} {rest : List Oper} {o : Oper} {a : Act} {Q : Exit → Act → World → Prop} {W : World} (hgd : o.guard = none) (t e : TypeId) (x : Operand) (ho : o.op = .convert t t x)
    (ht : P.underlying t = some (.slice e)) (he : P.underlying e = some (.int .u8)) (bs : List Int) (C : Array Value) (hC : C = (nums .u8 bs).toArray) (n : Nat) (hn : n = bs.length) (hm : bs.length ≤ 9223372036854775807) (hx : a.eval x = .slice (some ⟨W.heap.size, 0, none⟩) n n)
    (h : ∀ v w1, Kd.V (Kd.int .u8) e w1 W.heap.size (fun k => W.heap.size ≤ k) v bs → Below W.heap.size W w1 → wpList P ops Q rest (a.put o.dst v) w1) : wpList P ops Q (o :: rest) a (W.alloc (.cells C e)) := by
  subst hn
  have hrun : (execOp a.eval o).run P (W.alloc (.cells C e)) = .ok (.value (.slice (some ⟨W.heap.size, 0, none⟩) bs.length bs.length)) (W.alloc (.cells C e (C.size, C.size + 1))) := by
    have h1 := Lib.run_convert_bytes_const (P := P) W t e C bs.length bs.length ht he
    unfold execOp
    simp only [ho, Sem.run_bind, hx, h1, Result.andThen_ok, Sem.run_pure]
  refine Kd.event_run hgd hrun (h _ _ ⟨some ⟨W.heap.size, 0, none⟩, bs.length, rfl, Nat.le_refl _, fun W' hW => ?_⟩ (below_alloc (Below.refl _ _) _))
  have hblk : W'.heap[W.heap.size]? = some (.cells C e (C.size, C.size + 1)) := (hW W.heap.size (Nat.le_refl _) (by simp)).trans (heap_alloc_new W _)
  refine Kd.C_of_reads (d := (0 : Int)) (h1 := fun _ => rfl) ⟨rfl, hm, fun _ => ⟨⟨W.heap.size, 0, none⟩, rfl, fun j hj => ?_⟩⟩
  rw [add_plain]
  simp only [World.cell?, hblk, hC]
  simp [nums, List.getElem?_eq_getElem hj, List.getD_eq_getElem?_getD]
def hylit100000.f : Option (List Int) := some [120]
def decklelaw03_small.f (k : Nat)  : Option (Bool) := (varint_Take.f k (([172, 2, 9] : List Int))).bind fun bt121 => ((varint_Take.f k (([128, 0] : List Int))).bind fun bt127 => ((varint_Take.f k (([128] : List Int))).bind fun bt133 => ((varint_Take.f k (([255, 255, 255, 255, 255, 255, 255, 255, 255, 2] : List Int))).bind fun bt139 => ((varint_Take.f k (([255, 255, 255, 255, 255, 255, 255, 255, 255, 1] : List Int))).bind fun bt145 => (if bt121.1 = 300 then (if bt121.2.1 = 2 then (if bt121.2.2 = 0 then (if bt127.2.2 = 3 then (if bt133.2.2 = 2 then (if bt139.2.2 = 3 then (if bt145.1 = 18446744073709551615 then (if bt145.2.1 = 10 then (if bt145.2.2 = 0 then ((hylit100000.f).bind fun t148 => ((varint_Put.f k t148 (([0, 127, 128] : List Int))).bind fun t154 => (if (strOfNums t154).toList = ([120, 0, 127, 128, 1] : List UInt8) then ((varint_Size.f k 127).bind fun t157 => (if t157 = 1 then ((varint_Size.f k 128).bind fun t158 => (if t158 = 2 then ((varint_Zig.f (-1)).bind fun t159 => (if t159 = 1 then ((varint_Zig.f 1).bind fun t160 => (if t160 = 2 then ((varint_Zag.f 3).bind fun t161 => (if t161 = (-2) then ((varint_Zag.f 18446744073709551615).bind fun t162 => (some (t162 == (-9223372036854775808)))) else (none))) else (none))) else (none))) else (none))) else (none))) else (none)))) else (none)) else (none)) else (none)) else (none)) else (none)) else (none)) else (none)) else (none)) else (none))))))
theorem decklelaw03_small.mono : ∀ k, LeO (decklelaw03_small.f k ) (decklelaw03_small.f (k + 1) ) := by
  intro  k
  unfold decklelaw03_small.f
  repeat' first
      | (with_reducible exact varint_Put.mono _ _ _)
      | (with_reducible exact varint_Size.mono _ _)
      | (with_reducible exact varint_Take.mono _ _)
      | (with_reducible exact LeO.refl _)
      | (with_reducible exact LeO.none _)
      | (with_reducible refine LeO.ite ?_ ?_)
      | (with_reducible refine LeO.bind ?_ (fun _ => ?_))
      | exact varint_Put.mono _ _ _
      | exact varint_Size.mono _ _
      | exact varint_Take.mono _ _
      | exact LeO.none _
      | refine LeO.ite ?_ ?_
      | refine LeO.bind ?_ (fun _ => ?_)
set_option maxHeartbeats 8000000 in
set_option maxRecDepth 100000 in
theorem decklelaw03_small.calls (k : Nat)  (r : Bool) (w : World) (h : decklelaw03_small.f k  = some r) :
    Calls Try.prog 9 #[] w fun e w' => e = .returned (.bool r) ∧ Below w.heap.size w w' := by
  have HB := Aside0.mk (Below.refl w.heap.size w)
  have H : ((varint_Take.f k (([172, 2, 9] : List Int))).bind fun bt121 => ((varint_Take.f k (([128, 0] : List Int))).bind fun bt127 => ((varint_Take.f k (([128] : List Int))).bind fun bt133 => ((varint_Take.f k (([255, 255, 255, 255, 255, 255, 255, 255, 255, 2] : List Int))).bind fun bt139 => ((varint_Take.f k (([255, 255, 255, 255, 255, 255, 255, 255, 255, 1] : List Int))).bind fun bt145 => (if bt121.1 = 300 then (if bt121.2.1 = 2 then (if bt121.2.2 = 0 then (if bt127.2.2 = 3 then (if bt133.2.2 = 2 then (if bt139.2.2 = 3 then (if bt145.1 = 18446744073709551615 then (if bt145.2.1 = 10 then (if bt145.2.2 = 0 then ((hylit100000.f).bind fun t148 => ((varint_Put.f k t148 (([0, 127, 128] : List Int))).bind fun t154 => (if (strOfNums t154).toList = ([120, 0, 127, 128, 1] : List UInt8) then ((varint_Size.f k 127).bind fun t157 => (if t157 = 1 then ((varint_Size.f k 128).bind fun t158 => (if t158 = 2 then ((varint_Zig.f (-1)).bind fun t159 => (if t159 = 1 then ((varint_Zig.f 1).bind fun t160 => (if t160 = 2 then ((varint_Zag.f 3).bind fun t161 => (if t161 = (-2) then ((varint_Zag.f 18446744073709551615).bind fun t162 => (some (t162 == (-9223372036854775808)))) else (none))) else (none))) else (none))) else (none))) else (none))) else (none)))) else (none)) else (none)) else (none)) else (none)) else (none)) else (none)) else (none)) else (none)) else (none))))))) = some r := h
  clear h
  obtain ⟨y118, hy118⟩ : ∃ y_ : List Int, y_ = (([172, 2, 9] : List Int)) := ⟨_, rfl⟩
  replace H : ((varint_Take.f k y118).bind fun bt121 => ((varint_Take.f k (([128, 0] : List Int))).bind fun bt127 => ((varint_Take.f k (([128] : List Int))).bind fun bt133 => ((varint_Take.f k (([255, 255, 255, 255, 255, 255, 255, 255, 255, 2] : List Int))).bind fun bt139 => ((varint_Take.f k (([255, 255, 255, 255, 255, 255, 255, 255, 255, 1] : List Int))).bind fun bt145 => (if bt121.1 = 300 then (if bt121.2.1 = 2 then (if bt121.2.2 = 0 then (if bt127.2.2 = 3 then (if bt133.2.2 = 2 then (if bt139.2.2 = 3 then (if bt145.1 = 18446744073709551615 then (if bt145.2.1 = 10 then (if bt145.2.2 = 0 then ((hylit100000.f).bind fun t148 => ((varint_Put.f k t148 (([0, 127, 128] : List Int))).bind fun t154 => (if (strOfNums t154).toList = ([120, 0, 127, 128, 1] : List UInt8) then ((varint_Size.f k 127).bind fun t157 => (if t157 = 1 then ((varint_Size.f k 128).bind fun t158 => (if t158 = 2 then ((varint_Zig.f (-1)).bind fun t159 => (if t159 = 1 then ((varint_Zig.f 1).bind fun t160 => (if t160 = 2 then ((varint_Zag.f 3).bind fun t161 => (if t161 = (-2) then ((varint_Zag.f 18446744073709551615).bind fun t162 => (some (t162 == (-9223372036854775808)))) else (none))) else (none))) else (none))) else (none))) else (none))) else (none)))) else (none)) else (none)) else (none)) else (none)) else (none)) else (none)) else (none)) else (none)) else (none))))))) = some r := by first | (rw [hy118]; with_reducible exact H) | (have H2_ := (Option.bind_some _ _).symm.trans H; rw [hy118]; with_reducible exact H2_) | (have H2_ := (Option.bind_some _ _).symm.trans H; with_reducible exact H2_) | with_reducible exact H | (rw [hy118]; exact H) | exact H
  have Ny118 := Aside0.mk hy118
  clear hy118
  replace H := Option.bind_eq_some_iff.mp H
  obtain ⟨⟨t121, t122, t123⟩, A10, H⟩ := H
  replace H : ((varint_Take.f k (([128, 0] : List Int))).bind fun bt127 => ((varint_Take.f k (([128] : List Int))).bind fun bt133 => ((varint_Take.f k (([255, 255, 255, 255, 255, 255, 255, 255, 255, 2] : List Int))).bind fun bt139 => ((varint_Take.f k (([255, 255, 255, 255, 255, 255, 255, 255, 255, 1] : List Int))).bind fun bt145 => (if t121 = 300 then (if t122 = 2 then (if t123 = 0 then (if bt127.2.2 = 3 then (if bt133.2.2 = 2 then (if bt139.2.2 = 3 then (if bt145.1 = 18446744073709551615 then (if bt145.2.1 = 10 then (if bt145.2.2 = 0 then ((hylit100000.f).bind fun t148 => ((varint_Put.f k t148 (([0, 127, 128] : List Int))).bind fun t154 => (if (strOfNums t154).toList = ([120, 0, 127, 128, 1] : List UInt8) then ((varint_Size.f k 127).bind fun t157 => (if t157 = 1 then ((varint_Size.f k 128).bind fun t158 => (if t158 = 2 then ((varint_Zig.f (-1)).bind fun t159 => (if t159 = 1 then ((varint_Zig.f 1).bind fun t160 => (if t160 = 2 then ((varint_Zag.f 3).bind fun t161 => (if t161 = (-2) then ((varint_Zag.f 18446744073709551615).bind fun t162 => (some (t162 == (-9223372036854775808)))) else (none))) else (none))) else (none))) else (none))) else (none))) else (none)))) else (none)) else (none)) else (none)) else (none)) else (none)) else (none)) else (none)) else (none)) else (none)))))) = some r := H
  have A1 := Aside0.mk A10
  clear A10
  obtain ⟨y124, hy124⟩ : ∃ y_ : List Int, y_ = (([128, 0] : List Int)) := ⟨_, rfl⟩
  replace H : ((varint_Take.f k y124).bind fun bt127 => ((varint_Take.f k (([128] : List Int))).bind fun bt133 => ((varint_Take.f k (([255, 255, 255, 255, 255, 255, 255, 255, 255, 2] : List Int))).bind fun bt139 => ((varint_Take.f k (([255, 255, 255, 255, 255, 255, 255, 255, 255, 1] : List Int))).bind fun bt145 => (if t121 = 300 then (if t122 = 2 then (if t123 = 0 then (if bt127.2.2 = 3 then (if bt133.2.2 = 2 then (if bt139.2.2 = 3 then (if bt145.1 = 18446744073709551615 then (if bt145.2.1 = 10 then (if bt145.2.2 = 0 then ((hylit100000.f).bind fun t148 => ((varint_Put.f k t148 (([0, 127, 128] : List Int))).bind fun t154 => (if (strOfNums t154).toList = ([120, 0, 127, 128, 1] : List UInt8) then ((varint_Size.f k 127).bind fun t157 => (if t157 = 1 then ((varint_Size.f k 128).bind fun t158 => (if t158 = 2 then ((varint_Zig.f (-1)).bind fun t159 => (if t159 = 1 then ((varint_Zig.f 1).bind fun t160 => (if t160 = 2 then ((varint_Zag.f 3).bind fun t161 => (if t161 = (-2) then ((varint_Zag.f 18446744073709551615).bind fun t162 => (some (t162 == (-9223372036854775808)))) else (none))) else (none))) else (none))) else (none))) else (none))) else (none)))) else (none)) else (none)) else (none)) else (none)) else (none)) else (none)) else (none)) else (none)) else (none)))))) = some r := by first | (rw [hy124]; with_reducible exact H) | (have H2_ := (Option.bind_some _ _).symm.trans H; rw [hy124]; with_reducible exact H2_) | (have H2_ := (Option.bind_some _ _).symm.trans H; with_reducible exact H2_) | with_reducible exact H | (rw [hy124]; exact H) | exact H
  have Ny124 := Aside0.mk hy124
  clear hy124
  replace H := Option.bind_eq_some_iff.mp H
  obtain ⟨⟨t127, t128, t129⟩, A20, H⟩ := H
  replace H : ((varint_Take.f k (([128] : List Int))).bind fun bt133 => ((varint_Take.f k (([255, 255, 255, 255, 255, 255, 255, 255, 255, 2] : List Int))).bind fun bt139 => ((varint_Take.f k (([255, 255, 255, 255, 255, 255, 255, 255, 255, 1] : List Int))).bind fun bt145 => (if t121 = 300 then (if t122 = 2 then (if t123 = 0 then (if t129 = 3 then (if bt133.2.2 = 2 then (if bt139.2.2 = 3 then (if bt145.1 = 18446744073709551615 then (if bt145.2.1 = 10 then (if bt145.2.2 = 0 then ((hylit100000.f).bind fun t148 => ((varint_Put.f k t148 (([0, 127, 128] : List Int))).bind fun t154 => (if (strOfNums t154).toList = ([120, 0, 127, 128, 1] : List UInt8) then ((varint_Size.f k 127).bind fun t157 => (if t157 = 1 then ((varint_Size.f k 128).bind fun t158 => (if t158 = 2 then ((varint_Zig.f (-1)).bind fun t159 => (if t159 = 1 then ((varint_Zig.f 1).bind fun t160 => (if t160 = 2 then ((varint_Zag.f 3).bind fun t161 => (if t161 = (-2) then ((varint_Zag.f 18446744073709551615).bind fun t162 => (some (t162 == (-9223372036854775808)))) else (none))) else (none))) else (none))) else (none))) else (none))) else (none)))) else (none)) else (none)) else (none)) else (none)) else (none)) else (none)) else (none)) else (none)) else (none))))) = some r := H
  have A2 := Aside0.mk A20
  clear A20
  obtain ⟨y130, hy130⟩ : ∃ y_ : List Int, y_ = (([128] : List Int)) := ⟨_, rfl⟩
  replace H : ((varint_Take.f k y130).bind fun bt133 => ((varint_Take.f k (([255, 255, 255, 255, 255, 255, 255, 255, 255, 2] : List Int))).bind fun bt139 => ((varint_Take.f k (([255, 255, 255, 255, 255, 255, 255, 255, 255, 1] : List Int))).bind fun bt145 => (if t121 = 300 then (if t122 = 2 then (if t123 = 0 then (if t129 = 3 then (if bt133.2.2 = 2 then (if bt139.2.2 = 3 then (if bt145.1 = 18446744073709551615 then (if bt145.2.1 = 10 then (if bt145.2.2 = 0 then ((hylit100000.f).bind fun t148 => ((varint_Put.f k t148 (([0, 127, 128] : List Int))).bind fun t154 => (if (strOfNums t154).toList = ([120, 0, 127, 128, 1] : List UInt8) then ((varint_Size.f k 127).bind fun t157 => (if t157 = 1 then ((varint_Size.f k 128).bind fun t158 => (if t158 = 2 then ((varint_Zig.f (-1)).bind fun t159 => (if t159 = 1 then ((varint_Zig.f 1).bind fun t160 => (if t160 = 2 then ((varint_Zag.f 3).bind fun t161 => (if t161 = (-2) then ((varint_Zag.f 18446744073709551615).bind fun t162 => (some (t162 == (-9223372036854775808)))) else (none))) else (none))) else (none))) else (none))) else (none))) else (none)))) else (none)) else (none)) else (none)) else (none)) else (none)) else (none)) else (none)) else (none)) else (none))))) = some r := by first | (rw [hy130]; with_reducible exact H) | (have H2_ := (Option.bind_some _ _).symm.trans H; rw [hy130]; with_reducible exact H2_) | (have H2_ := (Option.bind_some _ _).symm.trans H; with_reducible exact H2_) | with_reducible exact H | (rw [hy130]; exact H) | exact H
  have Ny130 := Aside0.mk hy130
  clear hy130
  replace H := Option.bind_eq_some_iff.mp H
  obtain ⟨⟨t133, t134, t135⟩, A30, H⟩ := H
  replace H : ((varint_Take.f k (([255, 255, 255, 255, 255, 255, 255, 255, 255, 2] : List Int))).bind fun bt139 => ((varint_Take.f k (([255, 255, 255, 255, 255, 255, 255, 255, 255, 1] : List Int))).bind fun bt145 => (if t121 = 300 then (if t122 = 2 then (if t123 = 0 then (if t129 = 3 then (if t135 = 2 then (if bt139.2.2 = 3 then (if bt145.1 = 18446744073709551615 then (if bt145.2.1 = 10 then (if bt145.2.2 = 0 then ((hylit100000.f).bind fun t148 => ((varint_Put.f k t148 (([0, 127, 128] : List Int))).bind fun t154 => (if (strOfNums t154).toList = ([120, 0, 127, 128, 1] : List UInt8) then ((varint_Size.f k 127).bind fun t157 => (if t157 = 1 then ((varint_Size.f k 128).bind fun t158 => (if t158 = 2 then ((varint_Zig.f (-1)).bind fun t159 => (if t159 = 1 then ((varint_Zig.f 1).bind fun t160 => (if t160 = 2 then ((varint_Zag.f 3).bind fun t161 => (if t161 = (-2) then ((varint_Zag.f 18446744073709551615).bind fun t162 => (some (t162 == (-9223372036854775808)))) else (none))) else (none))) else (none))) else (none))) else (none))) else (none)))) else (none)) else (none)) else (none)) else (none)) else (none)) else (none)) else (none)) else (none)) else (none)))) = some r := H
  have A3 := Aside0.mk A30
  clear A30
  obtain ⟨y136, hy136⟩ : ∃ y_ : List Int, y_ = (([255, 255, 255, 255, 255, 255, 255, 255, 255, 2] : List Int)) := ⟨_, rfl⟩
  replace H : ((varint_Take.f k y136).bind fun bt139 => ((varint_Take.f k (([255, 255, 255, 255, 255, 255, 255, 255, 255, 1] : List Int))).bind fun bt145 => (if t121 = 300 then (if t122 = 2 then (if t123 = 0 then (if t129 = 3 then (if t135 = 2 then (if bt139.2.2 = 3 then (if bt145.1 = 18446744073709551615 then (if bt145.2.1 = 10 then (if bt145.2.2 = 0 then ((hylit100000.f).bind fun t148 => ((varint_Put.f k t148 (([0, 127, 128] : List Int))).bind fun t154 => (if (strOfNums t154).toList = ([120, 0, 127, 128, 1] : List UInt8) then ((varint_Size.f k 127).bind fun t157 => (if t157 = 1 then ((varint_Size.f k 128).bind fun t158 => (if t158 = 2 then ((varint_Zig.f (-1)).bind fun t159 => (if t159 = 1 then ((varint_Zig.f 1).bind fun t160 => (if t160 = 2 then ((varint_Zag.f 3).bind fun t161 => (if t161 = (-2) then ((varint_Zag.f 18446744073709551615).bind fun t162 => (some (t162 == (-9223372036854775808)))) else (none))) else (none))) else (none))) else (none))) else (none))) else (none)))) else (none)) else (none)) else (none)) else (none)) else (none)) else (none)) else (none)) else (none)) else (none)))) = some r := by first | (rw [hy136]; with_reducible exact H) | (have H2_ := (Option.bind_some _ _).symm.trans H; rw [hy136]; with_reducible exact H2_) | (have H2_ := (Option.bind_some _ _).symm.trans H; with_reducible exact H2_) | with_reducible exact H | (rw [hy136]; exact H) | exact H
  have Ny136 := Aside0.mk hy136
  clear hy136
  replace H := Option.bind_eq_some_iff.mp H
  obtain ⟨⟨t139, t140, t141⟩, A40, H⟩ := H
  replace H : ((varint_Take.f k (([255, 255, 255, 255, 255, 255, 255, 255, 255, 1] : List Int))).bind fun bt145 => (if t121 = 300 then (if t122 = 2 then (if t123 = 0 then (if t129 = 3 then (if t135 = 2 then (if t141 = 3 then (if bt145.1 = 18446744073709551615 then (if bt145.2.1 = 10 then (if bt145.2.2 = 0 then ((hylit100000.f).bind fun t148 => ((varint_Put.f k t148 (([0, 127, 128] : List Int))).bind fun t154 => (if (strOfNums t154).toList = ([120, 0, 127, 128, 1] : List UInt8) then ((varint_Size.f k 127).bind fun t157 => (if t157 = 1 then ((varint_Size.f k 128).bind fun t158 => (if t158 = 2 then ((varint_Zig.f (-1)).bind fun t159 => (if t159 = 1 then ((varint_Zig.f 1).bind fun t160 => (if t160 = 2 then ((varint_Zag.f 3).bind fun t161 => (if t161 = (-2) then ((varint_Zag.f 18446744073709551615).bind fun t162 => (some (t162 == (-9223372036854775808)))) else (none))) else (none))) else (none))) else (none))) else (none))) else (none)))) else (none)) else (none)) else (none)) else (none)) else (none)) else (none)) else (none)) else (none)) else (none))) = some r := H
  have A4 := Aside0.mk A40
  clear A40
  obtain ⟨y142, hy142⟩ : ∃ y_ : List Int, y_ = (([255, 255, 255, 255, 255, 255, 255, 255, 255, 1] : List Int)) := ⟨_, rfl⟩
  replace H : ((varint_Take.f k y142).bind fun bt145 => (if t121 = 300 then (if t122 = 2 then (if t123 = 0 then (if t129 = 3 then (if t135 = 2 then (if t141 = 3 then (if bt145.1 = 18446744073709551615 then (if bt145.2.1 = 10 then (if bt145.2.2 = 0 then ((hylit100000.f).bind fun t148 => ((varint_Put.f k t148 (([0, 127, 128] : List Int))).bind fun t154 => (if (strOfNums t154).toList = ([120, 0, 127, 128, 1] : List UInt8) then ((varint_Size.f k 127).bind fun t157 => (if t157 = 1 then ((varint_Size.f k 128).bind fun t158 => (if t158 = 2 then ((varint_Zig.f (-1)).bind fun t159 => (if t159 = 1 then ((varint_Zig.f 1).bind fun t160 => (if t160 = 2 then ((varint_Zag.f 3).bind fun t161 => (if t161 = (-2) then ((varint_Zag.f 18446744073709551615).bind fun t162 => (some (t162 == (-9223372036854775808)))) else (none))) else (none))) else (none))) else (none))) else (none))) else (none)))) else (none)) else (none)) else (none)) else (none)) else (none)) else (none)) else (none)) else (none)) else (none))) = some r := by first | (rw [hy142]; with_reducible exact H) | (have H2_ := (Option.bind_some _ _).symm.trans H; rw [hy142]; with_reducible exact H2_) | (have H2_ := (Option.bind_some _ _).symm.trans H; with_reducible exact H2_) | with_reducible exact H | (rw [hy142]; exact H) | exact H
  have Ny142 := Aside0.mk hy142
  clear hy142
  replace H := Option.bind_eq_some_iff.mp H
  obtain ⟨⟨t145, t146, t147⟩, A50, H⟩ := H
  replace H : (if t121 = 300 then (if t122 = 2 then (if t123 = 0 then (if t129 = 3 then (if t135 = 2 then (if t141 = 3 then (if t145 = 18446744073709551615 then (if t146 = 10 then (if t147 = 0 then ((hylit100000.f).bind fun t148 => ((varint_Put.f k t148 (([0, 127, 128] : List Int))).bind fun t154 => (if (strOfNums t154).toList = ([120, 0, 127, 128, 1] : List UInt8) then ((varint_Size.f k 127).bind fun t157 => (if t157 = 1 then ((varint_Size.f k 128).bind fun t158 => (if t158 = 2 then ((varint_Zig.f (-1)).bind fun t159 => (if t159 = 1 then ((varint_Zig.f 1).bind fun t160 => (if t160 = 2 then ((varint_Zag.f 3).bind fun t161 => (if t161 = (-2) then ((varint_Zag.f 18446744073709551615).bind fun t162 => (some (t162 == (-9223372036854775808)))) else (none))) else (none))) else (none))) else (none))) else (none))) else (none)))) else (none)) else (none)) else (none)) else (none)) else (none)) else (none)) else (none)) else (none)) else (none)) = some r := H
  have A5 := Aside0.mk A50
  clear A50
  by_cases c6 : t121 = 300
  · rw [if_pos c6] at H
    have c6b0 : (t121 == 300) = true := beq_iff_eq.mpr c6
    have c6b1 : (t121 != 300) = false := bne_eq_false_iff_eq.mpr c6
    clear c6
    by_cases c7 : t122 = 2
    · rw [if_pos c7] at H
      have c7b0 : (t122 == 2) = true := beq_iff_eq.mpr c7
      have c7b1 : (t122 != 2) = false := bne_eq_false_iff_eq.mpr c7
      clear c7
      by_cases c8 : t123 = 0
      · rw [if_pos c8] at H
        have c8b0 : (t123 == 0) = true := beq_iff_eq.mpr c8
        have c8b1 : (t123 != 0) = false := bne_eq_false_iff_eq.mpr c8
        clear c8
        by_cases c9 : t129 = 3
        · rw [if_pos c9] at H
          have c9b0 : (t129 == 3) = true := beq_iff_eq.mpr c9
          have c9b1 : (t129 != 3) = false := bne_eq_false_iff_eq.mpr c9
          clear c9
          by_cases c10 : t135 = 2
          · rw [if_pos c10] at H
            have c10b0 : (t135 == 2) = true := beq_iff_eq.mpr c10
            have c10b1 : (t135 != 2) = false := bne_eq_false_iff_eq.mpr c10
            clear c10
            by_cases c11 : t141 = 3
            · rw [if_pos c11] at H
              have c11b0 : (t141 == 3) = true := beq_iff_eq.mpr c11
              have c11b1 : (t141 != 3) = false := bne_eq_false_iff_eq.mpr c11
              clear c11
              by_cases c12 : t145 = 18446744073709551615
              · rw [if_pos c12] at H
                have c12b0 : (t145 == 18446744073709551615) = true := beq_iff_eq.mpr c12
                have c12b1 : (t145 != 18446744073709551615) = false := bne_eq_false_iff_eq.mpr c12
                clear c12
                by_cases c13 : t146 = 10
                · rw [if_pos c13] at H
                  have c13b0 : (t146 == 10) = true := beq_iff_eq.mpr c13
                  have c13b1 : (t146 != 10) = false := bne_eq_false_iff_eq.mpr c13
                  clear c13
                  by_cases c14 : t147 = 0
                  · rw [if_pos c14] at H
                    have c14b0 : (t147 == 0) = true := beq_iff_eq.mpr c14
                    have c14b1 : (t147 != 0) = false := bne_eq_false_iff_eq.mpr c14
                    clear c14
                    replace H := Option.bind_eq_some_iff.mp H
                    obtain ⟨t148, A150, H⟩ := H
                    replace H : ((varint_Put.f k t148 (([0, 127, 128] : List Int))).bind fun t154 => (if (strOfNums t154).toList = ([120, 0, 127, 128, 1] : List UInt8) then ((varint_Size.f k 127).bind fun t157 => (if t157 = 1 then ((varint_Size.f k 128).bind fun t158 => (if t158 = 2 then ((varint_Zig.f (-1)).bind fun t159 => (if t159 = 1 then ((varint_Zig.f 1).bind fun t160 => (if t160 = 2 then ((varint_Zag.f 3).bind fun t161 => (if t161 = (-2) then ((varint_Zag.f 18446744073709551615).bind fun t162 => (some (t162 == (-9223372036854775808)))) else (none))) else (none))) else (none))) else (none))) else (none))) else (none))) = some r := H
                    have A15 := Aside0.mk A150
                    clear A150
                    obtain ⟨y151, hy151⟩ : ∃ y_ : List Int, y_ = (([0, 127, 128] : List Int)) := ⟨_, rfl⟩
                    replace H : ((varint_Put.f k t148 y151).bind fun t154 => (if (strOfNums t154).toList = ([120, 0, 127, 128, 1] : List UInt8) then ((varint_Size.f k 127).bind fun t157 => (if t157 = 1 then ((varint_Size.f k 128).bind fun t158 => (if t158 = 2 then ((varint_Zig.f (-1)).bind fun t159 => (if t159 = 1 then ((varint_Zig.f 1).bind fun t160 => (if t160 = 2 then ((varint_Zag.f 3).bind fun t161 => (if t161 = (-2) then ((varint_Zag.f 18446744073709551615).bind fun t162 => (some (t162 == (-9223372036854775808)))) else (none))) else (none))) else (none))) else (none))) else (none))) else (none))) = some r := by first | (rw [hy151]; with_reducible exact H) | (have H2_ := (Option.bind_some _ _).symm.trans H; rw [hy151]; with_reducible exact H2_) | (have H2_ := (Option.bind_some _ _).symm.trans H; with_reducible exact H2_) | with_reducible exact H | (rw [hy151]; exact H) | exact H
                    have Ny151 := Aside0.mk hy151
                    clear hy151
                    replace H := Option.bind_eq_some_iff.mp H
                    obtain ⟨t154, A160, H⟩ := H
                    replace H : (if (strOfNums t154).toList = ([120, 0, 127, 128, 1] : List UInt8) then ((varint_Size.f k 127).bind fun t157 => (if t157 = 1 then ((varint_Size.f k 128).bind fun t158 => (if t158 = 2 then ((varint_Zig.f (-1)).bind fun t159 => (if t159 = 1 then ((varint_Zig.f 1).bind fun t160 => (if t160 = 2 then ((varint_Zag.f 3).bind fun t161 => (if t161 = (-2) then ((varint_Zag.f 18446744073709551615).bind fun t162 => (some (t162 == (-9223372036854775808)))) else (none))) else (none))) else (none))) else (none))) else (none))) else (none)) = some r := H
                    have A16 := Aside0.mk A160
                    clear A160
                    by_cases c17 : (strOfNums t154).toList = ([120, 0, 127, 128, 1] : List UInt8)
                    · rw [if_pos c17] at H
                      have c17b0 : ((strOfNums t154).toList == ([120, 0, 127, 128, 1] : List UInt8)) = true := beq_iff_eq.mpr c17
                      have c17b1 : ((strOfNums t154).toList != ([120, 0, 127, 128, 1] : List UInt8)) = false := bne_eq_false_iff_eq.mpr c17
                      clear c17
                      replace H := Option.bind_eq_some_iff.mp H
                      obtain ⟨t157, A180, H⟩ := H
                      replace H : (if t157 = 1 then ((varint_Size.f k 128).bind fun t158 => (if t158 = 2 then ((varint_Zig.f (-1)).bind fun t159 => (if t159 = 1 then ((varint_Zig.f 1).bind fun t160 => (if t160 = 2 then ((varint_Zag.f 3).bind fun t161 => (if t161 = (-2) then ((varint_Zag.f 18446744073709551615).bind fun t162 => (some (t162 == (-9223372036854775808)))) else (none))) else (none))) else (none))) else (none))) else (none)) = some r := H
                      have A18 := Aside0.mk A180
                      clear A180
                      by_cases c19 : t157 = 1
                      · rw [if_pos c19] at H
                        have c19b0 : (t157 == 1) = true := beq_iff_eq.mpr c19
                        have c19b1 : (t157 != 1) = false := bne_eq_false_iff_eq.mpr c19
                        clear c19
                        replace H := Option.bind_eq_some_iff.mp H
                        obtain ⟨t158, A200, H⟩ := H
                        replace H : (if t158 = 2 then ((varint_Zig.f (-1)).bind fun t159 => (if t159 = 1 then ((varint_Zig.f 1).bind fun t160 => (if t160 = 2 then ((varint_Zag.f 3).bind fun t161 => (if t161 = (-2) then ((varint_Zag.f 18446744073709551615).bind fun t162 => (some (t162 == (-9223372036854775808)))) else (none))) else (none))) else (none))) else (none)) = some r := H
                        have A20 := Aside0.mk A200
                        clear A200
                        by_cases c21 : t158 = 2
                        · rw [if_pos c21] at H
                          have c21b0 : (t158 == 2) = true := beq_iff_eq.mpr c21
                          have c21b1 : (t158 != 2) = false := bne_eq_false_iff_eq.mpr c21
                          clear c21
                          replace H := Option.bind_eq_some_iff.mp H
                          obtain ⟨t159, A220, H⟩ := H
                          replace H : (if t159 = 1 then ((varint_Zig.f 1).bind fun t160 => (if t160 = 2 then ((varint_Zag.f 3).bind fun t161 => (if t161 = (-2) then ((varint_Zag.f 18446744073709551615).bind fun t162 => (some (t162 == (-9223372036854775808)))) else (none))) else (none))) else (none)) = some r := H
                          have A22 := Aside0.mk A220
                          clear A220
                          by_cases c23 : t159 = 1
                          · rw [if_pos c23] at H
                            have c23b0 : (t159 == 1) = true := beq_iff_eq.mpr c23
                            have c23b1 : (t159 != 1) = false := bne_eq_false_iff_eq.mpr c23
                            clear c23
                            replace H := Option.bind_eq_some_iff.mp H
                            obtain ⟨t160, A240, H⟩ := H
                            replace H : (if t160 = 2 then ((varint_Zag.f 3).bind fun t161 => (if t161 = (-2) then ((varint_Zag.f 18446744073709551615).bind fun t162 => (some (t162 == (-9223372036854775808)))) else (none))) else (none)) = some r := H
                            have A24 := Aside0.mk A240
                            clear A240
                            by_cases c25 : t160 = 2
                            · rw [if_pos c25] at H
                              have c25b0 : (t160 == 2) = true := beq_iff_eq.mpr c25
                              have c25b1 : (t160 != 2) = false := bne_eq_false_iff_eq.mpr c25
                              clear c25
                              replace H := Option.bind_eq_some_iff.mp H
                              obtain ⟨t161, A260, H⟩ := H
                              replace H : (if t161 = (-2) then ((varint_Zag.f 18446744073709551615).bind fun t162 => (some (t162 == (-9223372036854775808)))) else (none)) = some r := H
                              have A26 := Aside0.mk A260
                              clear A260
                              by_cases c27 : t161 = (-2)
                              · rw [if_pos c27] at H
                                have c27b0 : (t161 == (-2)) = true := beq_iff_eq.mpr c27
                                have c27b1 : (t161 != (-2)) = false := bne_eq_false_iff_eq.mpr c27
                                clear c27
                                replace H := Option.bind_eq_some_iff.mp H
                                obtain ⟨t162, A280, H⟩ := H
                                replace H : (some (t162 == (-9223372036854775808))) = some r := H
                                have A28 := Aside0.mk A280
                                clear A280
                                obtain rfl := Option.some.inj H
                                go_enter Try.func9, Try.ntmps9
                                go_wp2_with (first | ((with_reducible refine gate_dst (N := 17) rfl ?_); (try (refine gate_guard (by rfl) ?_; dsimp only)); refine Kd.R_lit (Kd.int .u8) _ 5 ?hg (N := 17) ?hd (xs := ([172, 2, 9] : List Int)) (inner := [.int .u8 172, .int .u8 2, .int .u8 9]) (ok := fun _ => True) (okp := fun _ => True) ?hr ?hp (fun _ hk => hk) trivial (Below.refl _ _) (Nat.le_refl _) (by simp) ?_; (case hd => rfl); (case hg => rfl); (case hr => first | (go_simp; done) | (go_simp; rfl)); (case hp => exact (Reps.one (show Kd.M (Kd.int .u8) _ _ _ 172 [.int .u8 172] from rfl) (Reps.one (show Kd.M (Kd.int .u8) _ _ _ 2 [.int .u8 2] from rfl) (Reps.one (show Kd.M (Kd.int .u8) _ _ _ 9 [.int .u8 9] from rfl) (Reps.none _ _))))); intro v119 w29 ho30 hb hg_ hnew_; clear hg_ hnew_; (first | rw [← Ny118.out] at ho30 | (simp only [Int.reduceToNat] at ho30; rw [← Ny118.out] at ho30)); have n0_ := Aside0.mk (Kd.R_lower ho30 (below_size (by repeat (first | (with_reducible first | exact HB.out | apply below_alloc | apply pw_below_drewN | apply below_drew1) | exact HB.out)))); have n1_ := Aside0.mk (below_step (by repeat (first | (with_reducible first | exact HB.out | apply below_alloc | apply pw_below_drewN | apply below_drew1) | exact HB.out)) hb); clear HB; have HO120 := n0_; have HB := n1_; clear n0_ n1_; clear hb ho30; obtain ⟨Ao31, co31, eo31⟩ := Kd.R_slice HO120.out; subst eo31) | ((with_reducible refine gate_callee (f := 10) rfl ?_); refine goesL_ (some 18) rfl rfl Try.func10 (by kernel_rfl) rfl #[.slice Ao31 y118.length co31] rfl (by (try simp only [List.map_toArray, List.map_cons, List.map_nil]); first | done | rfl | (simp only [List.length_drop, List.length_take]; rfl)) ?_; (with_reducible refine (varint_Take.calls k _ _ y118 t121 t122 t123 _ ?side1 ?side2 A1.out).mono ?_); (case side1 => repeat (first | exact (Kd.R_reads' HO120.out).2.2 | (with_reducible refine Kd.C_alloc ?_ _) | (with_reducible refine Kd.C_drewN ?_ _) | (with_reducible refine Kd.C_drew ?_))); (case side2 => exact (Kd.R_reads' HO120.out).2.1); rintro e w' ⟨rfl, ⟨nd, rfl⟩⟩; refine ⟨_, rfl, ?_⟩) | ((with_reducible refine gate_dst (N := 23) rfl ?_); (try (refine gate_guard (by rfl) ?_; dsimp only)); refine Kd.R_lit (Kd.int .u8) _ 5 ?hg (N := 23) ?hd (xs := ([128, 0] : List Int)) (inner := [.int .u8 128, .int .u8 0]) (ok := fun _ => True) (okp := fun _ => True) ?hr ?hp (fun _ hk => hk) trivial (Below.refl _ _) (Nat.le_refl _) (by simp) ?_; (case hd => rfl); (case hg => rfl); (case hr => first | (go_simp; done) | (go_simp; rfl)); (case hp => exact (Reps.one (show Kd.M (Kd.int .u8) _ _ _ 128 [.int .u8 128] from rfl) (Reps.one (show Kd.M (Kd.int .u8) _ _ _ 0 [.int .u8 0] from rfl) (Reps.none _ _)))); intro v125 w32 ho33 hb hg_ hnew_; clear hg_ hnew_; (first | rw [← Ny124.out] at ho33 | (simp only [Int.reduceToNat] at ho33; rw [← Ny124.out] at ho33)); have n0_ := Aside0.mk (Kd.R_elder' (by (with_reducible repeat (first | apply Kd.R_alloc | apply Kd.R_drewN | apply Kd.R_drew)); exact HO120.out) (Kd.R_base ho33) hb); have n1_ := Aside0.mk (Kd.R_lower (Kd.R_new' ho33 (Kd.R_lt (by (with_reducible repeat (first | apply Kd.R_alloc | apply Kd.R_drewN | apply Kd.R_drew)); exact HO120.out))) (below_size (by repeat (first | (with_reducible first | exact HB.out | apply below_alloc | apply pw_below_drewN | apply below_drew1) | exact HB.out)))); have n2_ := Aside0.mk (below_step (by repeat (first | (with_reducible first | exact HB.out | apply below_alloc | apply pw_below_drewN | apply below_drew1) | exact HB.out)) hb); clear HO120; clear HB; have HO120 := n0_; have HO126 := n1_; have HB := n2_; clear n0_ n1_ n2_; clear hb ho33; obtain ⟨Ao34, co34, eo34⟩ := Kd.R_slice HO126.out; subst eo34) | ((with_reducible refine gate_callee (f := 10) rfl ?_); refine goesL_ (some 24) rfl rfl Try.func10 (by kernel_rfl) rfl #[.slice Ao34 y124.length co34] rfl (by (try simp only [List.map_toArray, List.map_cons, List.map_nil]); first | done | rfl | (simp only [List.length_drop, List.length_take]; rfl)) ?_; (with_reducible refine (varint_Take.calls k _ _ y124 t127 t128 t129 _ ?side1 ?side2 A2.out).mono ?_); (case side1 => repeat (first | exact (Kd.R_reads' HO126.out).2.2 | (with_reducible refine Kd.C_alloc ?_ _) | (with_reducible refine Kd.C_drewN ?_ _) | (with_reducible refine Kd.C_drew ?_))); (case side2 => exact (Kd.R_reads' HO126.out).2.1); rintro e w' ⟨rfl, ⟨nd, rfl⟩⟩; refine ⟨_, rfl, ?_⟩) | ((with_reducible refine gate_dst (N := 29) rfl ?_); (try (refine gate_guard (by rfl) ?_; dsimp only)); refine Kd.R_lit (Kd.int .u8) _ 5 ?hg (N := 29) ?hd (xs := ([128] : List Int)) (inner := [.int .u8 128]) (ok := fun _ => True) (okp := fun _ => True) ?hr ?hp (fun _ hk => hk) trivial (Below.refl _ _) (Nat.le_refl _) (by simp) ?_; (case hd => rfl); (case hg => rfl); (case hr => first | (go_simp; done) | (go_simp; rfl)); (case hp => exact (Reps.one (show Kd.M (Kd.int .u8) _ _ _ 128 [.int .u8 128] from rfl) (Reps.none _ _))); intro v131 w35 ho36 hb hg_ hnew_; clear hg_ hnew_; (first | rw [← Ny130.out] at ho36 | (simp only [Int.reduceToNat] at ho36; rw [← Ny130.out] at ho36)); have n0_ := Aside0.mk (Kd.R_elder' (by (with_reducible repeat (first | apply Kd.R_alloc | apply Kd.R_drewN | apply Kd.R_drew)); exact HO120.out) (Kd.R_base ho36) hb); have n1_ := Aside0.mk (Kd.R_elder' (by (with_reducible repeat (first | apply Kd.R_alloc | apply Kd.R_drewN | apply Kd.R_drew)); exact HO126.out) (Kd.R_base ho36) hb); have n2_ := Aside0.mk (Kd.R_lower (Kd.R_new' (Kd.R_new' ho36 (Kd.R_lt (by (with_reducible repeat (first | apply Kd.R_alloc | apply Kd.R_drewN | apply Kd.R_drew)); exact HO120.out))) (Kd.R_lt (by (with_reducible repeat (first | apply Kd.R_alloc | apply Kd.R_drewN | apply Kd.R_drew)); exact HO126.out))) (below_size (by repeat (first | (with_reducible first | exact HB.out | apply below_alloc | apply pw_below_drewN | apply below_drew1) | exact HB.out)))); have n3_ := Aside0.mk (below_step (by repeat (first | (with_reducible first | exact HB.out | apply below_alloc | apply pw_below_drewN | apply below_drew1) | exact HB.out)) hb); clear HO120; clear HO126; clear HB; have HO120 := n0_; have HO126 := n1_; have HO132 := n2_; have HB := n3_; clear n0_ n1_ n2_ n3_; clear hb ho36; obtain ⟨Ao37, co37, eo37⟩ := Kd.R_slice HO132.out; subst eo37) | ((with_reducible refine gate_callee (f := 10) rfl ?_); refine goesL_ (some 30) rfl rfl Try.func10 (by kernel_rfl) rfl #[.slice Ao37 y130.length co37] rfl (by (try simp only [List.map_toArray, List.map_cons, List.map_nil]); first | done | rfl | (simp only [List.length_drop, List.length_take]; rfl)) ?_; (with_reducible refine (varint_Take.calls k _ _ y130 t133 t134 t135 _ ?side1 ?side2 A3.out).mono ?_); (case side1 => repeat (first | exact (Kd.R_reads' HO132.out).2.2 | (with_reducible refine Kd.C_alloc ?_ _) | (with_reducible refine Kd.C_drewN ?_ _) | (with_reducible refine Kd.C_drew ?_))); (case side2 => exact (Kd.R_reads' HO132.out).2.1); rintro e w' ⟨rfl, ⟨nd, rfl⟩⟩; refine ⟨_, rfl, ?_⟩) | ((with_reducible refine gate_dst (N := 35) rfl ?_); (try (refine gate_guard (by rfl) ?_; dsimp only)); refine Kd.R_lit (Kd.int .u8) _ 5 ?hg (N := 35) ?hd (xs := ([255, 255, 255, 255, 255, 255, 255, 255, 255, 2] : List Int)) (inner := [.int .u8 255, .int .u8 255, .int .u8 255, .int .u8 255, .int .u8 255, .int .u8 255, .int .u8 255, .int .u8 255, .int .u8 255, .int .u8 2]) (ok := fun _ => True) (okp := fun _ => True) ?hr ?hp (fun _ hk => hk) trivial (Below.refl _ _) (Nat.le_refl _) (by simp) ?_; (case hd => rfl); (case hg => rfl); (case hr => first | (go_simp; done) | (go_simp; rfl)); (case hp => exact (Reps.one (show Kd.M (Kd.int .u8) _ _ _ 255 [.int .u8 255] from rfl) (Reps.one (show Kd.M (Kd.int .u8) _ _ _ 255 [.int .u8 255] from rfl) (Reps.one (show Kd.M (Kd.int .u8) _ _ _ 255 [.int .u8 255] from rfl) (Reps.one (show Kd.M (Kd.int .u8) _ _ _ 255 [.int .u8 255] from rfl) (Reps.one (show Kd.M (Kd.int .u8) _ _ _ 255 [.int .u8 255] from rfl) (Reps.one (show Kd.M (Kd.int .u8) _ _ _ 255 [.int .u8 255] from rfl) (Reps.one (show Kd.M (Kd.int .u8) _ _ _ 255 [.int .u8 255] from rfl) (Reps.one (show Kd.M (Kd.int .u8) _ _ _ 255 [.int .u8 255] from rfl) (Reps.one (show Kd.M (Kd.int .u8) _ _ _ 255 [.int .u8 255] from rfl) (Reps.one (show Kd.M (Kd.int .u8) _ _ _ 2 [.int .u8 2] from rfl) (Reps.none _ _)))))))))))); intro v137 w38 ho39 hb hg_ hnew_; clear hg_ hnew_; (first | rw [← Ny136.out] at ho39 | (simp only [Int.reduceToNat] at ho39; rw [← Ny136.out] at ho39)); have n0_ := Aside0.mk (Kd.R_elder' (by (with_reducible repeat (first | apply Kd.R_alloc | apply Kd.R_drewN | apply Kd.R_drew)); exact HO120.out) (Kd.R_base ho39) hb); have n1_ := Aside0.mk (Kd.R_elder' (by (with_reducible repeat (first | apply Kd.R_alloc | apply Kd.R_drewN | apply Kd.R_drew)); exact HO126.out) (Kd.R_base ho39) hb); have n2_ := Aside0.mk (Kd.R_elder' (by (with_reducible repeat (first | apply Kd.R_alloc | apply Kd.R_drewN | apply Kd.R_drew)); exact HO132.out) (Kd.R_base ho39) hb); have n3_ := Aside0.mk (Kd.R_lower (Kd.R_new' (Kd.R_new' (Kd.R_new' ho39 (Kd.R_lt (by (with_reducible repeat (first | apply Kd.R_alloc | apply Kd.R_drewN | apply Kd.R_drew)); exact HO120.out))) (Kd.R_lt (by (with_reducible repeat (first | apply Kd.R_alloc | apply Kd.R_drewN | apply Kd.R_drew)); exact HO126.out))) (Kd.R_lt (by (with_reducible repeat (first | apply Kd.R_alloc | apply Kd.R_drewN | apply Kd.R_drew)); exact HO132.out))) (below_size (by repeat (first | (with_reducible first | exact HB.out | apply below_alloc | apply pw_below_drewN | apply below_drew1) | exact HB.out)))); have n4_ := Aside0.mk (below_step (by repeat (first | (with_reducible first | exact HB.out | apply below_alloc | apply pw_below_drewN | apply below_drew1) | exact HB.out)) hb); clear HO120; clear HO126; clear HO132; clear HB; have HO120 := n0_; have HO126 := n1_; have HO132 := n2_; have HO138 := n3_; have HB := n4_; clear n0_ n1_ n2_ n3_ n4_; clear hb ho39; obtain ⟨Ao40, co40, eo40⟩ := Kd.R_slice HO138.out; subst eo40) | ((with_reducible refine gate_callee (f := 10) rfl ?_); refine goesL_ (some 36) rfl rfl Try.func10 (by kernel_rfl) rfl #[.slice Ao40 y136.length co40] rfl (by (try simp only [List.map_toArray, List.map_cons, List.map_nil]); first | done | rfl | (simp only [List.length_drop, List.length_take]; rfl)) ?_; (with_reducible refine (varint_Take.calls k _ _ y136 t139 t140 t141 _ ?side1 ?side2 A4.out).mono ?_); (case side1 => repeat (first | exact (Kd.R_reads' HO138.out).2.2 | (with_reducible refine Kd.C_alloc ?_ _) | (with_reducible refine Kd.C_drewN ?_ _) | (with_reducible refine Kd.C_drew ?_))); (case side2 => exact (Kd.R_reads' HO138.out).2.1); rintro e w' ⟨rfl, ⟨nd, rfl⟩⟩; refine ⟨_, rfl, ?_⟩) | ((with_reducible refine gate_dst (N := 41) rfl ?_); (try (refine gate_guard (by rfl) ?_; dsimp only)); refine Kd.R_lit (Kd.int .u8) _ 5 ?hg (N := 41) ?hd (xs := ([255, 255, 255, 255, 255, 255, 255, 255, 255, 1] : List Int)) (inner := [.int .u8 255, .int .u8 255, .int .u8 255, .int .u8 255, .int .u8 255, .int .u8 255, .int .u8 255, .int .u8 255, .int .u8 255, .int .u8 1]) (ok := fun _ => True) (okp := fun _ => True) ?hr ?hp (fun _ hk => hk) trivial (Below.refl _ _) (Nat.le_refl _) (by simp) ?_; (case hd => rfl); (case hg => rfl); (case hr => first | (go_simp; done) | (go_simp; rfl)); (case hp => exact (Reps.one (show Kd.M (Kd.int .u8) _ _ _ 255 [.int .u8 255] from rfl) (Reps.one (show Kd.M (Kd.int .u8) _ _ _ 255 [.int .u8 255] from rfl) (Reps.one (show Kd.M (Kd.int .u8) _ _ _ 255 [.int .u8 255] from rfl) (Reps.one (show Kd.M (Kd.int .u8) _ _ _ 255 [.int .u8 255] from rfl) (Reps.one (show Kd.M (Kd.int .u8) _ _ _ 255 [.int .u8 255] from rfl) (Reps.one (show Kd.M (Kd.int .u8) _ _ _ 255 [.int .u8 255] from rfl) (Reps.one (show Kd.M (Kd.int .u8) _ _ _ 255 [.int .u8 255] from rfl) (Reps.one (show Kd.M (Kd.int .u8) _ _ _ 255 [.int .u8 255] from rfl) (Reps.one (show Kd.M (Kd.int .u8) _ _ _ 255 [.int .u8 255] from rfl) (Reps.one (show Kd.M (Kd.int .u8) _ _ _ 1 [.int .u8 1] from rfl) (Reps.none _ _)))))))))))); intro v143 w41 ho42 hb hg_ hnew_; clear hg_ hnew_; (first | rw [← Ny142.out] at ho42 | (simp only [Int.reduceToNat] at ho42; rw [← Ny142.out] at ho42)); have n0_ := Aside0.mk (Kd.R_elder' (by (with_reducible repeat (first | apply Kd.R_alloc | apply Kd.R_drewN | apply Kd.R_drew)); exact HO120.out) (Kd.R_base ho42) hb); have n1_ := Aside0.mk (Kd.R_elder' (by (with_reducible repeat (first | apply Kd.R_alloc | apply Kd.R_drewN | apply Kd.R_drew)); exact HO126.out) (Kd.R_base ho42) hb); have n2_ := Aside0.mk (Kd.R_elder' (by (with_reducible repeat (first | apply Kd.R_alloc | apply Kd.R_drewN | apply Kd.R_drew)); exact HO132.out) (Kd.R_base ho42) hb); have n3_ := Aside0.mk (Kd.R_elder' (by (with_reducible repeat (first | apply Kd.R_alloc | apply Kd.R_drewN | apply Kd.R_drew)); exact HO138.out) (Kd.R_base ho42) hb); have n4_ := Aside0.mk (Kd.R_lower (Kd.R_new' (Kd.R_new' (Kd.R_new' (Kd.R_new' ho42 (Kd.R_lt (by (with_reducible repeat (first | apply Kd.R_alloc | apply Kd.R_drewN | apply Kd.R_drew)); exact HO120.out))) (Kd.R_lt (by (with_reducible repeat (first | apply Kd.R_alloc | apply Kd.R_drewN | apply Kd.R_drew)); exact HO126.out))) (Kd.R_lt (by (with_reducible repeat (first | apply Kd.R_alloc | apply Kd.R_drewN | apply Kd.R_drew)); exact HO132.out))) (Kd.R_lt (by (with_reducible repeat (first | apply Kd.R_alloc | apply Kd.R_drewN | apply Kd.R_drew)); exact HO138.out))) (below_size (by repeat (first | (with_reducible first | exact HB.out | apply below_alloc | apply pw_below_drewN | apply below_drew1) | exact HB.out)))); have n5_ := Aside0.mk (below_step (by repeat (first | (with_reducible first | exact HB.out | apply below_alloc | apply pw_below_drewN | apply below_drew1) | exact HB.out)) hb); clear HO120; clear HO126; clear HO132; clear HO138; clear HB; have HO120 := n0_; have HO126 := n1_; have HO132 := n2_; have HO138 := n3_; have HO144 := n4_; have HB := n5_; clear n0_ n1_ n2_ n3_ n4_ n5_; clear hb ho42; obtain ⟨Ao43, co43, eo43⟩ := Kd.R_slice HO144.out; subst eo43) | ((with_reducible refine gate_callee (f := 10) rfl ?_); refine goesL_ (some 42) rfl rfl Try.func10 (by kernel_rfl) rfl #[.slice Ao43 y142.length co43] rfl (by (try simp only [List.map_toArray, List.map_cons, List.map_nil]); first | done | rfl | (simp only [List.length_drop, List.length_take]; rfl)) ?_; (with_reducible refine (varint_Take.calls k _ _ y142 t145 t146 t147 _ ?side1 ?side2 A5.out).mono ?_); (case side1 => repeat (first | exact (Kd.R_reads' HO144.out).2.2 | (with_reducible refine Kd.C_alloc ?_ _) | (with_reducible refine Kd.C_drewN ?_ _) | (with_reducible refine Kd.C_drew ?_))); (case side2 => exact (Kd.R_reads' HO144.out).2.1); rintro e w' ⟨rfl, ⟨nd, rfl⟩⟩; refine ⟨_, rfl, ?_⟩) | ((with_reducible refine gate_dst (N := 82) rfl ?_); (try (refine gate_guard (by rfl) ?_; dsimp only)); refine lit_conv (by first | rfl | assumption) 22 5 (.tmp 81) rfl Try.underlying22 Try.underlying5 [120] _ rfl _ rfl (by simp) rfl ?_; intro v149 w44 ho0 hb; rw [show ([120] : List Int) = t148 from Option.some.inj A15.out] at ho0; have n0_ := Aside0.mk (Kd.R_below (by (with_reducible repeat (first | apply Kd.R_alloc | apply Kd.R_drewN | apply Kd.R_drew)); exact HO120.out) hb); have n1_ := Aside0.mk (Kd.R_below (by (with_reducible repeat (first | apply Kd.R_alloc | apply Kd.R_drewN | apply Kd.R_drew)); exact HO126.out) hb); have n2_ := Aside0.mk (Kd.R_below (by (with_reducible repeat (first | apply Kd.R_alloc | apply Kd.R_drewN | apply Kd.R_drew)); exact HO132.out) hb); have n3_ := Aside0.mk (Kd.R_below (by (with_reducible repeat (first | apply Kd.R_alloc | apply Kd.R_drewN | apply Kd.R_drew)); exact HO138.out) hb); have n4_ := Aside0.mk (Kd.R_below (by (with_reducible repeat (first | apply Kd.R_alloc | apply Kd.R_drewN | apply Kd.R_drew)); exact HO144.out) hb); have n5_ := Aside0.mk (Kd.V_lower (Kd.V_mono (ok' := fun k_ => some k_ ≠ (.slice Ao31 y118.length co31 : Value).ownBlock ∧ some k_ ≠ (.slice Ao34 y124.length co34 : Value).ownBlock ∧ some k_ ≠ (.slice Ao37 y130.length co37 : Value).ownBlock ∧ some k_ ≠ (.slice Ao40 y136.length co40 : Value).ownBlock ∧ some k_ ≠ (.slice Ao43 y142.length co43 : Value).ownBlock) ho0 (fun k_ hk_ => ⟨(Kd.fresh' (Kd.R_lt (by (with_reducible repeat (first | apply Kd.R_alloc | apply Kd.R_drewN | apply Kd.R_drew)); exact HO120.out)) k_ hk_), (Kd.fresh' (Kd.R_lt (by (with_reducible repeat (first | apply Kd.R_alloc | apply Kd.R_drewN | apply Kd.R_drew)); exact HO126.out)) k_ hk_), (Kd.fresh' (Kd.R_lt (by (with_reducible repeat (first | apply Kd.R_alloc | apply Kd.R_drewN | apply Kd.R_drew)); exact HO132.out)) k_ hk_), (Kd.fresh' (Kd.R_lt (by (with_reducible repeat (first | apply Kd.R_alloc | apply Kd.R_drewN | apply Kd.R_drew)); exact HO138.out)) k_ hk_), (Kd.fresh' (Kd.R_lt (by (with_reducible repeat (first | apply Kd.R_alloc | apply Kd.R_drewN | apply Kd.R_drew)); exact HO144.out)) k_ hk_)⟩)) (below_size (by repeat (first | (with_reducible first | exact HB.out | apply below_alloc | apply pw_below_drewN | apply below_drew1) | exact HB.out)))); have n6_ := Aside0.mk (below_step (by repeat (first | (with_reducible first | exact HB.out | apply below_alloc | apply pw_below_drewN | apply below_drew1) | exact HB.out)) hb); clear HO120; clear HO126; clear HO132; clear HO138; clear HO144; clear HB; have HO120 := n0_; have HO126 := n1_; have HO132 := n2_; have HO138 := n3_; have HO144 := n4_; have HO150 := n5_; have HB := n6_; clear n0_ n1_ n2_ n3_ n4_ n5_ n6_; (try clear hb); (try clear hb2); (try clear hk); (try clear hi); (try clear ho0)) | ((with_reducible refine gate_dst (N := 83) rfl ?_); (try (refine gate_guard (by rfl) ?_; dsimp only)); refine Kd.R_lit (Kd.int .u64) _ 25 ?hg (N := 83) ?hd (xs := ([0, 127, 128] : List Int)) (inner := [.int .u64 0, .int .u64 127, .int .u64 128]) (ok := fun _ => True) (okp := fun _ => True) ?hr ?hp (fun _ hk => hk) trivial (Below.refl _ _) (Nat.le_refl _) (by simp) ?_; (case hd => rfl); (case hg => rfl); (case hr => first | (go_simp; done) | (go_simp; rfl)); (case hp => exact (Reps.one (show Kd.M (Kd.int .u64) _ _ _ 0 [.int .u64 0] from rfl) (Reps.one (show Kd.M (Kd.int .u64) _ _ _ 127 [.int .u64 127] from rfl) (Reps.one (show Kd.M (Kd.int .u64) _ _ _ 128 [.int .u64 128] from rfl) (Reps.none _ _))))); intro v152 w45 ho46 hb hg_ hnew_; clear hg_ hnew_; (first | rw [← Ny151.out] at ho46 | (simp only [Int.reduceToNat] at ho46; rw [← Ny151.out] at ho46)); have n0_ := Aside0.mk (Kd.R_below (by (with_reducible repeat (first | apply Kd.R_alloc | apply Kd.R_drewN | apply Kd.R_drew)); exact HO120.out) hb); have n1_ := Aside0.mk (Kd.R_below (by (with_reducible repeat (first | apply Kd.R_alloc | apply Kd.R_drewN | apply Kd.R_drew)); exact HO126.out) hb); have n2_ := Aside0.mk (Kd.R_below (by (with_reducible repeat (first | apply Kd.R_alloc | apply Kd.R_drewN | apply Kd.R_drew)); exact HO132.out) hb); have n3_ := Aside0.mk (Kd.R_below (by (with_reducible repeat (first | apply Kd.R_alloc | apply Kd.R_drewN | apply Kd.R_drew)); exact HO138.out) hb); have n4_ := Aside0.mk (Kd.R_below (by (with_reducible repeat (first | apply Kd.R_alloc | apply Kd.R_drewN | apply Kd.R_drew)); exact HO144.out) hb); have n5_ := Aside0.mk (Kd.V_elder' (by (with_reducible repeat (first | apply Kd.V_alloc | apply Kd.V_drewN | apply Kd.V_drew)); exact HO150.out) (Kd.R_base ho46) hb); have n6_ := Aside0.mk (Kd.R_lower ho46 (below_size (by repeat (first | (with_reducible first | exact HB.out | apply below_alloc | apply pw_below_drewN | apply below_drew1) | exact HB.out)))); have n7_ := Aside0.mk (below_step (by repeat (first | (with_reducible first | exact HB.out | apply below_alloc | apply pw_below_drewN | apply below_drew1) | exact HB.out)) hb); clear HO120; clear HO126; clear HO132; clear HO138; clear HO144; clear HO150; clear HB; have HO120 := n0_; have HO126 := n1_; have HO132 := n2_; have HO138 := n3_; have HO144 := n4_; have HO150 := n5_; have HO153 := n6_; have HB := n7_; clear n0_ n1_ n2_ n3_ n4_ n5_ n6_ n7_; clear hb ho46; obtain ⟨Ao47, co47, eo47⟩ := Kd.V_slice HO150.out; subst eo47; obtain ⟨Ao48, co48, eo48⟩ := Kd.R_slice HO153.out; subst eo48) | (go_at_call 12; (with_reducible refine (varint_Put.calls k _ _ t148 _ _ y151 t154 _ ?side1 ?side2 ?side3 ?side4 A16.out).mono ?_); (case side1 => repeat (first | exact (Kd.V_reads' HO150.out).2.2 | (with_reducible refine Kd.C_alloc ?_ _) | (with_reducible refine Kd.C_drewN ?_ _) | (with_reducible refine Kd.C_drew ?_))); (case side2 => exact (Kd.V_reads' HO150.out).2.1); (case side3 => repeat (first | exact (Kd.R_reads' HO153.out).2.2 | (with_reducible refine Kd.C_alloc ?_ _) | (with_reducible refine Kd.C_drewN ?_ _) | (with_reducible refine Kd.C_drew ?_))); (case side4 => exact (Kd.R_reads' HO153.out).2.1); rintro e w49 ⟨v155, rfl, ho0, hb⟩; have n0_ := Aside0.mk (Kd.R_elder' (by (with_reducible repeat (first | apply Kd.R_alloc | apply Kd.R_drewN | apply Kd.R_drew)); exact HO120.out) (Kd.R_base ho0) hb); have n1_ := Aside0.mk (Kd.R_elder' (by (with_reducible repeat (first | apply Kd.R_alloc | apply Kd.R_drewN | apply Kd.R_drew)); exact HO126.out) (Kd.R_base ho0) hb); have n2_ := Aside0.mk (Kd.R_elder' (by (with_reducible repeat (first | apply Kd.R_alloc | apply Kd.R_drewN | apply Kd.R_drew)); exact HO132.out) (Kd.R_base ho0) hb); have n3_ := Aside0.mk (Kd.R_elder' (by (with_reducible repeat (first | apply Kd.R_alloc | apply Kd.R_drewN | apply Kd.R_drew)); exact HO138.out) (Kd.R_base ho0) hb); have n4_ := Aside0.mk (Kd.R_elder' (by (with_reducible repeat (first | apply Kd.R_alloc | apply Kd.R_drewN | apply Kd.R_drew)); exact HO144.out) (Kd.R_base ho0) hb); have n5_ := Aside0.mk (Kd.V_elder' (by (with_reducible repeat (first | apply Kd.V_alloc | apply Kd.V_drewN | apply Kd.V_drew)); exact HO150.out) (Kd.R_base ho0) hb); have n6_ := Aside0.mk (Kd.R_below (by (with_reducible repeat (first | apply Kd.R_alloc | apply Kd.R_drewN | apply Kd.R_drew)); exact HO153.out) hb); have n7_ := Aside0.mk (Kd.R_lower (Kd.R_new' (Kd.R_new' (Kd.R_new' (Kd.R_new' (Kd.R_new' ho0 (Kd.R_lt (by (with_reducible repeat (first | apply Kd.R_alloc | apply Kd.R_drewN | apply Kd.R_drew)); exact HO120.out))) (Kd.R_lt (by (with_reducible repeat (first | apply Kd.R_alloc | apply Kd.R_drewN | apply Kd.R_drew)); exact HO126.out))) (Kd.R_lt (by (with_reducible repeat (first | apply Kd.R_alloc | apply Kd.R_drewN | apply Kd.R_drew)); exact HO132.out))) (Kd.R_lt (by (with_reducible repeat (first | apply Kd.R_alloc | apply Kd.R_drewN | apply Kd.R_drew)); exact HO138.out))) (Kd.R_lt (by (with_reducible repeat (first | apply Kd.R_alloc | apply Kd.R_drewN | apply Kd.R_drew)); exact HO144.out))) (below_size (by repeat (first | (with_reducible first | exact HB.out | apply below_alloc | apply pw_below_drewN | apply below_drew1) | exact HB.out)))); have n8_ := Aside0.mk (below_step (by repeat (first | (with_reducible first | exact HB.out | apply below_alloc | apply pw_below_drewN | apply below_drew1) | exact HB.out)) hb); clear HO120; clear HO126; clear HO132; clear HO138; clear HO144; clear HO150; clear HO153; clear HB; have HO120 := n0_; have HO126 := n1_; have HO132 := n2_; have HO138 := n3_; have HO144 := n4_; have HO150 := n5_; have HO153 := n6_; have HO156 := n7_; have HB := n8_; clear n0_ n1_ n2_ n3_ n4_ n5_ n6_ n7_ n8_; (try clear hb); (try clear hb2); (try clear hk); (try clear hi); (try clear ho0); have hcv50 := own_string (P := Try.prog) Try.underlying22 Try.underlying5 Try.underlying9 (Kd.own_of_R HO156.out)) | (go_at_call 16; (with_reducible refine (varint_Size.calls k 127 t157 _ A18.out).mono ?_); rintro e w' ⟨rfl, ⟨nd, rfl⟩⟩) | (go_at_call 16; (with_reducible refine (varint_Size.calls k 128 t158 _ A20.out).mono ?_); rintro e w' ⟨rfl, ⟨nd, rfl⟩⟩) | (go_at_call 14; (with_reducible refine (varint_Zig.calls (-1) t159 _ A22.out).mono ?_); rintro e w' ⟨rfl, ⟨nd, rfl⟩⟩) | (go_at_call 14; (with_reducible refine (varint_Zig.calls 1 t160 _ A24.out).mono ?_); rintro e w' ⟨rfl, ⟨nd, rfl⟩⟩) | (go_at_call 18; (with_reducible refine (varint_Zag.calls 3 t161 _ A26.out).mono ?_); rintro e w' ⟨rfl, ⟨nd, rfl⟩⟩) | (go_at_call 18; (with_reducible refine (varint_Zag.calls 18446744073709551615 t162 _ A28.out).mono ?_); rintro e w' ⟨rfl, ⟨nd, rfl⟩⟩))
                                go_ret
                                exact ⟨by first | rfl | (simp [errW_none, errW_some] <;> rfl) | (simp [*, errW_none, errW_some] <;> rfl), by repeat (first | (with_reducible first | exact HB.out | apply below_alloc | apply pw_below_drewN | apply below_drew1) | exact HB.out)⟩
                              · rw [if_neg c27] at H
                                exact absurd H (by simp)
                            · rw [if_neg c25] at H
                              exact absurd H (by simp)
                          · rw [if_neg c23] at H
                            exact absurd H (by simp)
                        · rw [if_neg c21] at H
                          exact absurd H (by simp)
                      · rw [if_neg c19] at H
                        exact absurd H (by simp)
                    · rw [if_neg c17] at H
                      exact absurd H (by simp)
                  · rw [if_neg c14] at H
                    exact absurd H (by simp)
                · rw [if_neg c13] at H
                  exact absurd H (by simp)
              · rw [if_neg c12] at H
                exact absurd H (by simp)
            · rw [if_neg c11] at H
              exact absurd H (by simp)
          · rw [if_neg c10] at H
            exact absurd H (by simp)
        · rw [if_neg c9] at H
          exact absurd H (by simp)
      · rw [if_neg c8] at H
        exact absurd H (by simp)
    · rw [if_neg c7] at H
      exact absurd H (by simp)
  · rw [if_neg c6] at H
    exact absurd H (by simp)

/-! ### decklelaw03_VarintBack: function 4 -/
theorem q_string {P : Program} {w : World} {e' base : Nat} {ok : Nat → Prop} {src dst e : TypeId} {v : Value} {xs : List Int} (hs : P.underlying src = some (.slice e)) (he : P.underlying e = some (.int .u8)) (hd : P.underlying dst = some .string)
    (h : Kd.Q (Kd.int .u8) e' w base ok v xs) : (convert src dst v).run P w = .ok (.string (strOfNums xs)) w := by
  obtain ⟨A, c, rfl, _⟩ := Kd.Q_slice h
  exact Kd.C_string hs he hd (Kd.Q_reads' h).2.2
mutual
def decklelaw03_VarintBack.j0 : Nat → List Int → List Int → Bool → Bool → Option (Bool)
  | 0, _, _, _, _ => none
  | k + 1, x0, x1, x5, x19 => if x19 = true then (some x5) else ((varint_Put.f k ([] : List Int) x0).bind fun t164 => (if t164.length + x1.length < 140737488355328 then (decklelaw03_VarintBack.l0 k x0 x1 x5 (t164 ++ x1) 0) else (none)))
def decklelaw03_VarintBack.l0 : Nat → List Int → List Int → Bool → List Int → Int → Option (Bool)
  | 0, _, _, _, _, _ => none
  | k + 1, x0, x1, x5, x6, x7 => if x7 < (x0.length : Int) then ((varint_Take.f k x6).bind fun bt170 => (if 0 ≤ x7 then (if bt170.1 = (rd x0 x7) then ((varint_Size.f k (rd x0 x7)).bind fun t175 => (if bt170.2.1 = t175 then (if bt170.2.2 = 0 then (if bt170.2.1 < 1 then (none) else (if bt170.2.1 > (x6.length : Int) then (none) else (if 0 ≤ bt170.2.1 then (if bt170.2.1 ≤ (x6.length : Int) then (decklelaw03_VarintBack.l0 k x0 x1 x5 (x6.drop (bt170.2.1 : Int).toNat) (wrap64 (x7 + 1))) else (none)) else (none)))) else (none)) else (none))) else (none)) else (none))) else (if x5 = true then (some ((strOfNums x6).toList == (strOfNums x1).toList)) else (none))
end
def decklelaw03_VarintBack.f (k : Nat) (l0 : List Int) (l1 : List Int) : Option (Bool) := (decklelaw03_small.f k).bind fun t163 => (if (l0.length : Int) > 50 then (decklelaw03_VarintBack.j0 k l0 l1 t163 true) else (decklelaw03_VarintBack.j0 k l0 l1 t163 (decide ((l1.length : Int) > 200))))
theorem decklelaw03_VarintBack.mono_l : ∀ k, (∀ y0 y1 y2 y3, LeO (decklelaw03_VarintBack.j0 k y0 y1 y2 y3) (decklelaw03_VarintBack.j0 (k + 1) y0 y1 y2 y3)) ∧ (∀ y0 y1 y2 y3 y4, LeO (decklelaw03_VarintBack.l0 k y0 y1 y2 y3 y4) (decklelaw03_VarintBack.l0 (k + 1) y0 y1 y2 y3 y4))
  | 0 => ⟨fun _ _ _ _ r h => by simp [decklelaw03_VarintBack.j0] at h, fun _ _ _ _ _ r h => by simp [decklelaw03_VarintBack.l0] at h⟩
  | k + 1 => by
    obtain ⟨ih0, ih1⟩ := decklelaw03_VarintBack.mono_l k
    refine ⟨?_, ?_⟩
    · intro y0 y1 y2 y3
      unfold decklelaw03_VarintBack.j0
      repeat' first
      | (with_reducible exact ih0 _ _ _ _)
      | (with_reducible exact ih1 _ _ _ _ _)
      | (with_reducible exact decklelaw03_small.mono _)
      | (with_reducible exact varint_Put.mono _ _ _)
      | (with_reducible exact varint_Size.mono _ _)
      | (with_reducible exact varint_Take.mono _ _)
      | (with_reducible exact LeO.refl _)
      | (with_reducible exact LeO.none _)
      | (with_reducible refine LeO.ite ?_ ?_)
      | (with_reducible refine LeO.bind ?_ (fun _ => ?_))
      | exact ih0 _ _ _ _
      | exact ih1 _ _ _ _ _
      | exact decklelaw03_small.mono _
      | exact varint_Put.mono _ _ _
      | exact varint_Size.mono _ _
      | exact varint_Take.mono _ _
      | exact LeO.none _
      | refine LeO.ite ?_ ?_
      | refine LeO.bind ?_ (fun _ => ?_)
    · intro y0 y1 y2 y3 y4
      unfold decklelaw03_VarintBack.l0
      repeat' first
      | (with_reducible exact ih0 _ _ _ _)
      | (with_reducible exact ih1 _ _ _ _ _)
      | (with_reducible exact decklelaw03_small.mono _)
      | (with_reducible exact varint_Put.mono _ _ _)
      | (with_reducible exact varint_Size.mono _ _)
      | (with_reducible exact varint_Take.mono _ _)
      | (with_reducible exact LeO.refl _)
      | (with_reducible exact LeO.none _)
      | (with_reducible refine LeO.ite ?_ ?_)
      | (with_reducible refine LeO.bind ?_ (fun _ => ?_))
      | exact ih0 _ _ _ _
      | exact ih1 _ _ _ _ _
      | exact decklelaw03_small.mono _
      | exact varint_Put.mono _ _ _
      | exact varint_Size.mono _ _
      | exact varint_Take.mono _ _
      | exact LeO.none _
      | refine LeO.ite ?_ ?_
      | refine LeO.bind ?_ (fun _ => ?_)
theorem decklelaw03_VarintBack.mono : ∀ a0 a1 k, LeO (decklelaw03_VarintBack.f k a0 a1) (decklelaw03_VarintBack.f (k + 1) a0 a1) := by
  intro a0 a1 k
  obtain ⟨ih0, ih1⟩ := decklelaw03_VarintBack.mono_l k
  unfold decklelaw03_VarintBack.f
  repeat' first
      | (with_reducible exact ih0 _ _ _ _)
      | (with_reducible exact ih1 _ _ _ _ _)
      | (with_reducible exact decklelaw03_small.mono _)
      | (with_reducible exact varint_Put.mono _ _ _)
      | (with_reducible exact varint_Size.mono _ _)
      | (with_reducible exact varint_Take.mono _ _)
      | (with_reducible exact LeO.refl _)
      | (with_reducible exact LeO.none _)
      | (with_reducible refine LeO.ite ?_ ?_)
      | (with_reducible refine LeO.bind ?_ (fun _ => ?_))
      | exact ih0 _ _ _ _
      | exact ih1 _ _ _ _ _
      | exact decklelaw03_small.mono _
      | exact varint_Put.mono _ _ _
      | exact varint_Size.mono _ _
      | exact varint_Take.mono _ _
      | exact LeO.none _
      | refine LeO.ite ?_ ?_
      | refine LeO.bind ?_ (fun _ => ?_)
set_option maxHeartbeats 8000000 in
set_option maxRecDepth 100000 in
theorem decklelaw03_VarintBack.calls (k : Nat) (A0 : Option Addr) (c0 : Nat) (l0 : List Int) (A1 : Option Addr) (c1 : Nat) (l1 : List Int) (r : Bool) (w : World) (hr0 : Kd.C (Kd.int .u64) w A0 l0.length l0) (hc0 : l0.length ≤ c0) (hr1 : Kd.C (Kd.int .u8) w A1 l1.length l1) (hc1 : l1.length ≤ c1) (h : decklelaw03_VarintBack.f k l0 l1 = some r) :
    Calls Try.prog 4 #[.slice A0 l0.length c0, .slice A1 l1.length c1] w fun e w' => e = .returned (.bool r) ∧ Below w.heap.size w w' := by
  have HR0 := Aside0.mk hr0
  have HC0 := Aside0.mk hc0
  clear hr0 hc0
  have HR1 := Aside0.mk hr1
  have HC1 := Aside0.mk hc1
  clear hr1 hc1
  have HB := Aside0.mk (Below.refl w.heap.size w)
  have H : ((decklelaw03_small.f k).bind fun t163 => (if (l0.length : Int) > 50 then (decklelaw03_VarintBack.j0 k l0 l1 t163 true) else (decklelaw03_VarintBack.j0 k l0 l1 t163 (decide ((l1.length : Int) > 200))))) = some r := h
  clear h
  replace H := Option.bind_eq_some_iff.mp H
  obtain ⟨t163, A30, H⟩ := H
  replace H : (if (l0.length : Int) > 50 then (decklelaw03_VarintBack.j0 k l0 l1 t163 true) else (decklelaw03_VarintBack.j0 k l0 l1 t163 (decide ((l1.length : Int) > 200)))) = some r := H
  have A3 := Aside0.mk A30
  clear A30
  have HC4 := Aside0.mk H
  clear H
  go_enter Try.func4, Try.ntmps4
  go_upto_region 2 with (first | ((with_reducible refine gate_callee (f := 9) rfl ?_); refine goesL_ (some 11) rfl rfl Try.func9 (by kernel_rfl) rfl #[] rfl (by (try simp only [List.map_toArray, List.map_cons, List.map_nil]); first | done | rfl | (simp only [List.length_drop, List.length_take]; rfl)) ?_; (with_reducible refine (decklelaw03_small.calls k  t163 _ A3.out).mono ?_); rintro e w5 ⟨rfl, hb⟩; refine ⟨_, rfl, ?_⟩; have n0_ := Aside0.mk (below_step (by repeat (first | (with_reducible first | exact HB.out | apply below_alloc | apply pw_below_drewN | apply below_drew1) | exact HB.out)) hb); clear HB; have HB := n0_; clear n0_; (try clear hb); (try clear hb2); (try clear hk); (try clear hi)))
  (try simp only [Act.put, List.setIfInBounds_toArray, List.set_cons_zero, List.set_cons_succ])
  go_cut [19] (fun v19 wc => ∃ (kq : Nat) (x19_3 : Bool), v19 = .bool x19_3 ∧ Aside0 (decklelaw03_VarintBack.j0 kq l0 l1 t163 x19_3 = some r) ∧ Aside0 (kq ≤ k) ∧ Aside0 (Below w.heap.size w wc))
  case first =>
    have H := HC4.out
    clear HC4
    by_cases c6 : (l0.length : Int) > 50
    · rw [if_pos c6] at H
      have c6b0 : decide (50 < (l0.length : Int)) = true := decide_eq_true c6
      have c6b1 : decide (50 < l0.length) = true := decide_eq_true (by omega)
      clear c6
      (first | rw [c6b0] | (simp only [i64_w, i32_w]; rw [c6b0]) | skip)
      have H' := Aside0.mk H
      clear H
      go_wp2
      go_meet
      case rel => exact ⟨_, (true), (by first | rfl | (simp; done) | (simp [*]; done)), H', ⟨by first | omega | exact Nat.le_refl _⟩, ⟨by repeat (first | (with_reducible first | exact HB.out | apply below_alloc | apply pw_below_drewN | apply below_drew1) | exact HB.out)⟩⟩
    · rw [if_neg c6] at H
      have c6b0 : decide (50 < (l0.length : Int)) = false := decide_eq_false c6
      have c6b1 : decide (50 < l0.length) = false := decide_eq_false (by omega)
      clear c6
      (first | rw [c6b0] | (simp only [i64_w, i32_w]; rw [c6b0]) | skip)
      have H' := Aside0.mk H
      clear H
      go_wp2
      go_meet
      case rel => exact ⟨_, (decide ((l1.length : Int) > 200)), (by first | rfl | (simp; done) | (simp [*]; done)), H', ⟨by first | omega | exact Nat.le_refl _⟩, ⟨by repeat (first | (with_reducible first | exact HB.out | apply below_alloc | apply pw_below_drewN | apply below_drew1) | exact HB.out)⟩⟩
  case rest =>
    clear HC4
    try clear c1
    try clear p2
    try clear c4
    try clear c6
    try clear c6b0
    try clear c6b1
    obtain ⟨kq, x19_3, rfl, HA, HJ3, HB⟩ := hcut
    cases kq with
    | zero => exact absurd HA.out (by simp [decklelaw03_VarintBack.j0])
    | succ kj3 =>
      have H := HA.out
      clear HA
      simp only [decklelaw03_VarintBack.j0] at H
      by_cases c7 : x19_3 = true
      · subst c7
        have H1 : (some t163) = some r := by rw [if_pos rfl] at H; exact H
        clear H
        have H := H1
        clear H1
        obtain rfl := Option.some.inj H
        go_wp2
        go_ret
        exact ⟨by first | rfl | (simp [errW_none, errW_some] <;> rfl) | (simp [*, errW_none, errW_some] <;> rfl), by repeat (first | (with_reducible first | exact HB.out | apply below_alloc | apply pw_below_drewN | apply below_drew1) | exact HB.out)⟩
      · replace c7 := Bool.eq_false_iff.mpr c7
        subst c7
        have H1 : ((varint_Put.f kj3 ([] : List Int) l0).bind fun t164 => (if t164.length + l1.length < 140737488355328 then (decklelaw03_VarintBack.l0 kj3 l0 l1 t163 (t164 ++ l1) 0) else (none))) = some r := by rw [if_neg (show ¬ (false = true) by decide)] at H; exact H
        clear H
        have H := H1
        clear H1
        replace H := Option.bind_eq_some_iff.mp H
        obtain ⟨t164, A80, H⟩ := H
        replace H : (if t164.length + l1.length < 140737488355328 then (decklelaw03_VarintBack.l0 kj3 l0 l1 t163 (t164 ++ l1) 0) else (none)) = some r := H
        have A8 := Aside0.mk A80
        clear A80
        by_cases c9 : t164.length + l1.length < 140737488355328
        · rw [if_pos c9] at H
          have LMc9 := Aside0.mk c9
          clear c9
          obtain ⟨y167, hy167⟩ : ∃ y_ : List Int, y_ = (t164 ++ l1) := ⟨_, rfl⟩
          replace H : (decklelaw03_VarintBack.l0 kj3 l0 l1 t163 y167 0) = some r := by first | (rw [hy167]; with_reducible exact H) | (have H2_ := (Option.bind_some _ _).symm.trans H; rw [hy167]; with_reducible exact H2_) | (have H2_ := (Option.bind_some _ _).symm.trans H; with_reducible exact H2_) | with_reducible exact H | (rw [hy167]; exact H) | exact H
          have Ny167 := Aside0.mk hy167
          clear hy167
          have H' := Aside0.mk H
          clear H
          go_wp2_with (first | ((with_reducible refine gate_callee (f := 12) rfl ?_); refine goesL_ (some 22) rfl rfl Try.func12 (by kernel_rfl) rfl #[.slice none 0 0, .slice A0 l0.length c0] rfl (by (try simp only [List.map_toArray, List.map_cons, List.map_nil]); first | done | rfl | (simp only [List.length_drop, List.length_take]; rfl)) ?_; (refine (varint_Put.calls kj3 _ _ ([] : List Int) _ _ l0 t164 _ ?side1 ?side2 ?side3 ?side4 A8.out).mono ?_); (case side1 => exact Kd.C_nil _ _); (case side2 => exact Nat.le_refl _); (case side3 => repeat (first | exact (Kd.C_below HR0.out HB.out) | (with_reducible refine Kd.C_alloc ?_ _) | (with_reducible refine Kd.C_drewN ?_ _) | (with_reducible refine Kd.C_drew ?_))); (case side4 => exact HC0.out); rintro e w10 ⟨v165, rfl, ho0, hb⟩; refine ⟨_, rfl, ?_⟩; have n0_ := Aside0.mk (Kd.R_lower ho0 (below_size (by repeat (first | (with_reducible first | exact HB.out | apply below_alloc | apply pw_below_drewN | apply below_drew1) | exact HB.out)))); have n1_ := Aside0.mk (below_step (by repeat (first | (with_reducible first | exact HB.out | apply below_alloc | apply pw_below_drewN | apply below_drew1) | exact HB.out)) hb); clear HB; have HO166 := n0_; have HB := n1_; clear n0_ n1_; (try clear hb); (try clear hb2); (try clear hk); (try clear hi); (try clear ho0)) | ((with_reducible refine gate_builtin (b := .append) (xs := #[.tmp 22, .tmp 23]) rfl ?_); (try (refine gate_guard (by rfl) ?_; dsimp only)); at_builtin; refine Kd.R_append_rows (Kd.int .u8) (w0 := w) w.heap.size rfl (.tmp 22) (.tmp 23) 22 5 (.int .u8 0) 1 rfl Try.underlying22 info5 rfl (by decide) (by omega) v165 t164 l1 _ _ _ (fun _ => True) (fun _ => False) rfl rfl ?aO ?aR (fun _ _ h => h) (fun _ h => h.elim) ?aF ?aB ?aS ?aL ?_; (case aR => repeat (first | exact (Kd.C_below HR1.out HB.out) | (with_reducible refine Kd.C_alloc ?_ _) | (with_reducible refine Kd.C_drewN ?_ _) | (with_reducible refine Kd.C_drew ?_))); (case aB => exact (by repeat (first | (with_reducible first | exact HB.out | apply below_alloc | apply pw_below_drewN | apply below_drew1) | exact HB.out))); (case aF => exact (fun _ _ => trivial)); (case aO => exact (by (with_reducible repeat (first | apply Kd.R_alloc | apply Kd.R_drewN | apply Kd.R_drew)); exact HO166.out)); (case aS => exact (below_size (by repeat (first | (with_reducible first | exact HB.out | apply below_alloc | apply pw_below_drewN | apply below_drew1) | exact HB.out)))); (case aL => have := LMc9.out; omega); intro v168 w11 ho hb hg hat; rw [← Ny167.out] at ho; have n0_ := Aside0.mk (hb); have n1_ := Aside0.mk (ho); clear HB; clear HO166; have HB := n0_; have HO169 := n1_; clear n0_ n1_; clear ho hb hg hat))
          go_loopg [6, 7] kj3 (fun kq v6 v7 w' => ∃ (x6_2 : List Int) (x7_2 : Int), v7 = .int .i64 x7_2 ∧ Aside0 (decklelaw03_VarintBack.l0 kq l0 l1 t163 x6_2 x7_2 = some r) ∧ Aside0 (kq ≤ kj3) ∧ Aside0 (Kd.Q (Kd.int .u8) 5 w' w.heap.size (fun _ => True) v6 x6_2) ∧ Aside0 (Below w.heap.size w w'))
          case atStart => exact ⟨(y167), (0), (by first | rfl | (simp; done) | (simp [*]; done)), H', ⟨Nat.le_refl _⟩, ⟨Kd.Q_of_R (by (with_reducible repeat (first | apply Kd.R_alloc | apply Kd.R_drewN | apply Kd.R_drew)); exact HO169.out)⟩, ⟨by repeat (first | (with_reducible first | exact HB.out | apply below_alloc | apply pw_below_drewN | apply below_drew1) | exact HB.out)⟩⟩
          case round =>
            clear H'
            try clear c1
            try clear p2
            try clear c4
            try clear c6
            try clear c6b0
            try clear c6b1
            try clear c7
            try clear c9
            try clear p2
            obtain ⟨x6_2, x7_2, rfl, HA, HK2, HO_6, HB⟩ := hrel
            cases gk with
            | zero => exact absurd HA.out (by simp [decklelaw03_VarintBack.l0])
            | succ k2 =>
              have H := HA.out
              clear HA
              simp only [decklelaw03_VarintBack.l0] at H
              by_cases c12 : x7_2 < (l0.length : Int)
              · rw [if_pos c12] at H
                have c12b0 : decide (x7_2 < (l0.length : Int)) = true := decide_eq_true c12
                clear c12
                replace H := Option.bind_eq_some_iff.mp H
                obtain ⟨⟨t170, t171, t172⟩, A130, H⟩ := H
                replace H : (if 0 ≤ x7_2 then (if t170 = (rd l0 x7_2) then ((varint_Size.f k2 (rd l0 x7_2)).bind fun t175 => (if t171 = t175 then (if t172 = 0 then (if t171 < 1 then (none) else (if t171 > (x6_2.length : Int) then (none) else (if 0 ≤ t171 then (if t171 ≤ (x6_2.length : Int) then (decklelaw03_VarintBack.l0 k2 l0 l1 t163 (x6_2.drop (t171 : Int).toNat) (wrap64 (x7_2 + 1))) else (none)) else (none)))) else (none)) else (none))) else (none)) else (none)) = some r := H
                have A13 := Aside0.mk A130
                clear A130
                by_cases c14 : 0 ≤ x7_2
                · rw [if_pos c14] at H
                  have c14b0 : decide (0 ≤ x7_2) = true := decide_eq_true c14
                  clear c14
                  by_cases c15 : t170 = (rd l0 x7_2)
                  · rw [if_pos c15] at H
                    have c15b0 : (t170 == (rd l0 x7_2)) = true := beq_iff_eq.mpr c15
                    have c15b1 : (t170 != (rd l0 x7_2)) = false := bne_eq_false_iff_eq.mpr c15
                    clear c15
                    replace H := Option.bind_eq_some_iff.mp H
                    obtain ⟨t175, A160, H⟩ := H
                    replace H : (if t171 = t175 then (if t172 = 0 then (if t171 < 1 then (none) else (if t171 > (x6_2.length : Int) then (none) else (if 0 ≤ t171 then (if t171 ≤ (x6_2.length : Int) then (decklelaw03_VarintBack.l0 k2 l0 l1 t163 (x6_2.drop (t171 : Int).toNat) (wrap64 (x7_2 + 1))) else (none)) else (none)))) else (none)) else (none)) = some r := H
                    have A16 := Aside0.mk A160
                    clear A160
                    by_cases c17 : t171 = t175
                    · rw [if_pos c17] at H
                      have c17b0 : (t171 == t175) = true := beq_iff_eq.mpr c17
                      have c17b1 : (t171 != t175) = false := bne_eq_false_iff_eq.mpr c17
                      clear c17
                      by_cases c18 : t172 = 0
                      · rw [if_pos c18] at H
                        have c18b0 : (t172 == 0) = true := beq_iff_eq.mpr c18
                        have c18b1 : (t172 != 0) = false := bne_eq_false_iff_eq.mpr c18
                        clear c18
                        by_cases c19 : t171 < 1
                        · rw [if_pos c19] at H
                          exact absurd H (by simp)
                        · rw [if_neg c19] at H
                          have c19b0 : decide (t171 < 1) = false := decide_eq_false c19
                          clear c19
                          by_cases c20 : t171 > (x6_2.length : Int)
                          · rw [if_pos c20] at H
                            exact absurd H (by simp)
                          · rw [if_neg c20] at H
                            have c20b0 : decide ((x6_2.length : Int) < t171) = false := decide_eq_false c20
                            clear c20
                            by_cases c21 : 0 ≤ t171
                            · rw [if_pos c21] at H
                              have c21b0 := eq_true c21
                              have c21b1 : decide (0 ≤ t171) = true := decide_eq_true c21
                              clear c21
                              by_cases c22 : t171 ≤ (x6_2.length : Int)
                              · rw [if_pos c22] at H
                                have c22b0 := eq_true c22
                                have c22b1 : decide (t171 ≤ (x6_2.length : Int)) = true := decide_eq_true c22
                                clear c22
                                obtain ⟨y176, hy176⟩ : ∃ y_ : List Int, y_ = (x6_2.drop (t171 : Int).toNat) := ⟨_, rfl⟩
                                replace H : (decklelaw03_VarintBack.l0 k2 l0 l1 t163 y176 (wrap64 (x7_2 + 1))) = some r := by first | (rw [hy176]; with_reducible exact H) | (have H2_ := (Option.bind_some _ _).symm.trans H; rw [hy176]; with_reducible exact H2_) | (have H2_ := (Option.bind_some _ _).symm.trans H; with_reducible exact H2_) | with_reducible exact H | (rw [hy176]; exact H) | exact H
                                have Ny176 := Aside0.mk hy176
                                clear hy176
                                have H' := Aside0.mk H
                                clear H
                                obtain ⟨Ao23, co23, eo23, _⟩ := Kd.Q_slice HO_6.out
                                subst eo23
                                go_wp2_with (first | ((with_reducible refine gate_callee (f := 10) rfl ?_); refine goesL_ (some 33) rfl rfl Try.func10 (by kernel_rfl) rfl #[.slice Ao23 x6_2.length co23] rfl (by (try simp only [List.map_toArray, List.map_cons, List.map_nil]); first | done | rfl | (simp only [List.length_drop, List.length_take]; rfl)) ?_; (with_reducible refine (varint_Take.calls k2 _ _ x6_2 t170 t171 t172 _ ?side1 ?side2 A13.out).mono ?_); (case side1 => repeat (first | exact (Kd.Q_reads' HO_6.out).2.2 | (with_reducible refine Kd.C_alloc ?_ _) | (with_reducible refine Kd.C_drewN ?_ _) | (with_reducible refine Kd.C_drew ?_))); (case side2 => exact (Kd.Q_reads' HO_6.out).2.1); rintro e w' ⟨rfl, ⟨nd, rfl⟩⟩; refine ⟨_, rfl, ?_⟩; have p173 : 0 ≤ (x7_2 : Int) := of_decide_eq_true (by first | (with_reducible assumption) | assumption); have q173 : x7_2 < (l0.length : Int) := of_decide_eq_true (by first | (with_reducible assumption) | assumption); obtain ⟨ad173, e173, hx173_0⟩ := Kd.at_int HR0.out x7_2 p173 q173; cases e173; replace hx173_0 := (HB.out.cell (World.block_lt_of_cell? w _ hx173_0)).trans hx173_0; replace p173 := eq_true p173; replace q173 := eq_true q173; have p174 : 0 ≤ (x7_2 : Int) := of_decide_eq_true (by first | (with_reducible assumption) | assumption); have q174 : x7_2 < (l0.length : Int) := of_decide_eq_true (by first | (with_reducible assumption) | assumption); obtain ⟨ad174, e174, hx174_0⟩ := Kd.at_int HR0.out x7_2 p174 q174; obtain rfl : ad173 = ad174 := (by injection e174); replace hx174_0 := (HB.out.cell (World.block_lt_of_cell? w _ hx174_0)).trans hx174_0; replace p174 := eq_true p174; replace q174 := eq_true q174) | (go_at_call 16; (with_reducible refine (varint_Size.calls k2 (rd l0 x7_2) t175 _ A16.out).mono ?_); rintro e w' ⟨rfl, ⟨nd, rfl⟩⟩; have q24 : (t171 : Int) ≤ ((x6_2.length : Int) : Int) := of_decide_eq_true (by first | (with_reducible assumption) | assumption); obtain ⟨i024, hi024, _, hsz24, _⟩ := info_parts info5; have hcut24 := cut_from (P := Try.prog) 22 5 .i64 Try.underlying22 hi024 1 hsz24 Ao23 x6_2.length co23 t171 (of_decide_eq_true (by first | (with_reducible assumption) | assumption)) q24; have hr24 := Kd.Q_drop (k := (t171 : Int).toNat) HO_6.out (by omega); obtain ⟨A24, hA24⟩ : ∃ A1, A1 = (if co23 = (t171 : Int).toNat then Ao23 else (Ao23 : Option Addr).map (·.add ((t171 : Int).toNat * 1))) := ⟨_, rfl⟩; obtain ⟨c24, hc24⟩ : ∃ c1, c1 = co23 - (t171 : Int).toNat := ⟨_, rfl⟩; have hy24 : y176.length = x6_2.length - (t171 : Int).toNat := (by rw [Ny176.out, List.length_drop]); rw [← Ny176.out] at hr24; rw [← hy24, ← hA24, ← hc24] at hcut24; replace hr24 : Kd.Q (Kd.int .u8) 5 wr w.heap.size (fun _ => True) (.slice A24 y176.length c24) y176 := (by rw [hA24, hc24, hy24]; exact hr24); have HE24 : Aside0 ((Value.slice A24 y176.length c24).ownBlock = (.slice Ao23 x6_2.length co23 : Value).ownBlock) := ⟨by rw [hA24]; split <;> (cases (Ao23 : Option Addr) <;> first | rfl | (simp [Value.ownBlock, add_block]; done))⟩; clear hy24 hi024 hsz24 HO_6 hA24 hc24; have HO178 := Aside0.mk hr24; clear hr24; replace q24 := eq_true q24))
                                go_roundg k2
                                case measure => have := HJ3.out; have := HK2.out; omega
                                case rel => exact ⟨(y176), (wrap64 (x7_2 + 1)), (by first | rfl | (simp; done) | (simp [*]; done)), H', ⟨by have := HJ3.out; have := HK2.out; omega⟩, ⟨by (with_reducible repeat (first | apply Kd.Q_alloc | apply Kd.Q_drewN | apply Kd.Q_drew)); exact HO178.out⟩, ⟨by repeat (first | (with_reducible first | exact HB.out | apply below_alloc | apply pw_below_drewN | apply below_drew1) | exact HB.out)⟩⟩
                              · rw [if_neg c22] at H
                                exact absurd H (by simp)
                            · rw [if_neg c21] at H
                              exact absurd H (by simp)
                      · rw [if_neg c18] at H
                        exact absurd H (by simp)
                    · rw [if_neg c17] at H
                      exact absurd H (by simp)
                  · rw [if_neg c15] at H
                    exact absurd H (by simp)
                · rw [if_neg c14] at H
                  exact absurd H (by simp)
              · rw [if_neg c12] at H
                have c12b0 : decide (x7_2 < (l0.length : Int)) = false := decide_eq_false c12
                clear c12
                by_cases c25 : t163 = true
                · subst c25
                  have H1 : (some ((strOfNums x6_2).toList == (strOfNums l1).toList)) = some r := by rw [if_pos rfl] at H; exact H
                  clear H
                  have H := H1
                  clear H1
                  obtain rfl := Option.some.inj H
                  have hcv26 := q_string (P := Try.prog) Try.underlying22 Try.underlying5 Try.underlying9 HO_6.out
                  have hcv27 := Kd.C_string (P := Try.prog) (A := A1) (c := c1) Try.underlying22 Try.underlying5 Try.underlying9 (Kd.C_below HR1.out HB.out)
                  go_wp2
                  go_ret
                  exact ⟨by first | rfl | (simp [errW_none, errW_some] <;> rfl) | (simp [*, errW_none, errW_some] <;> rfl), by repeat (first | (with_reducible first | exact HB.out | apply below_alloc | apply pw_below_drewN | apply below_drew1) | exact HB.out)⟩
                · replace c25 := Bool.eq_false_iff.mpr c25
                  subst c25
                  have H1 : (none) = some r := by rw [if_neg (show ¬ (false = true) by decide)] at H; exact H
                  clear H
                  have H := H1
                  clear H1
                  exact absurd H (by simp)
        · rw [if_neg c9] at H
          exact absurd H (by simp)

/-- THE ONE PURE STATEMENT of decklelaw03_VarintBack: yours. -/
def decklelaw03_VarintBack.Pure : Prop := ∀ (l0 : List Int) (l1 : List Int), l0.length ≤ maxLen → l0.length * 8 ≤ 140737488351232 → (∀ x ∈ l0, (Lit.int .u64 x).wf = true) → l1.length ≤ maxLen → l1.length * 1 ≤ 140737488351232 → (∀ x ∈ l1, (Lit.int .u8 x).wf = true) → ∃ k, decklelaw03_VarintBack.f k l0 l1 = some true
theorem decklelaw03_VarintBack.walk (P : decklelaw03_VarintBack.Pure) (a0 : Option Addr) (len0 cap0 : Nat) (z0 : List Int) (a1 : Option Addr) (len1 cap1 : Nat) (z1 : List Int) (w : World) (w0 : (a0 = none ∧ len0 = 0 ∧ cap0 = 0 ∧ z0 = []) ∨ ∃ x, a0 = some x ∧ len0 ≤ cap0 ∧ cap0 ≤ maxLen ∧ z0.length = cap0 ∧ (∀ i, i < z0.length → w.cell? (x.add i) = some (.int .u64 (z0.getD i 0))) ∧ ∀ n ∈ z0, (Lit.int .u64 n).wf = true) (y0 : len0 * 8 ≤ 140737488351232) (w1 : (a1 = none ∧ len1 = 0 ∧ cap1 = 0 ∧ z1 = []) ∨ ∃ x, a1 = some x ∧ len1 ≤ cap1 ∧ cap1 ≤ maxLen ∧ z1.length = cap1 ∧ (∀ i, i < z1.length → w.cell? (x.add i) = some (.int .u8 (z1.getD i 0))) ∧ ∀ n ∈ z1, (Lit.int .u8 n).wf = true) (y1 : len1 * 1 ≤ 140737488351232) :
    Calls Try.prog 4 #[.slice a0 len0 cap0, .slice a1 len1 cap1] w fun e w' => e = .returned (.bool true) ∧ Below w.heap.size w w' := by
  obtain ⟨l0, rfl, hr0, hm0, hw0, hc0⟩ := ReadsInt.ofRowC w0
  obtain ⟨l1, rfl, hr1, hm1, hw1, hc1⟩ := ReadsInt.ofRowC w1
  obtain ⟨k, h⟩ := P l0 l1 hm0 y0 hw0 hm1 y1 hw1
  refine (decklelaw03_VarintBack.calls k _ _ l0 _ _ l1 true w (Kd.C_of_reads (d := (0 : Int)) (h1 := fun _ => rfl) hr0) hc0 (Kd.C_of_reads (d := (0 : Int)) (h1 := fun _ => rfl) hr1) hc1 h).mono ?_
  rintro e w' ⟨rfl, hd⟩
  exact ⟨rfl, hd⟩

end Go.Proofs.Ytamcgfnmnlpneaa.HVarintBack
