-- Written by the session's program hy.py.
import Derived.Test.YtamcgfnmnlpneaaHVarintTellsx0
import Derived.Test.YtamcgfnmnlpneaaHVarintTellsx1
namespace Go.Proofs.Ytamcgfnmnlpneaa.HVarintTells
open Go.RowKit Go.Proofs.YtamcgfnmnlpneaaW.PrintWords Go.Proofs.YtamcgfnmnlpneaaW.PrintLast Go.Proofs.YtamcgfnmnlpneaaW.PrintMore
attribute [local go_sem] max2_int min2_int max_two min_two max_three min_three max_four min_four   -- for this text's walks alone
set_option linter.unusedVariables false
set_option linter.unusedSimpArgs false

/-! ### decklelaw03_small: function 9 -/
theorem v_string {P : Program} {w : World} {ok : Nat → Prop} {src dst e : TypeId} {v : Value} {xs : List Int} (hs : P.underlying src = some (.slice e)) (he : P.underlying e = some (.int .u8)) (hd : P.underlying dst = some .string)
    (h : Kd.V (Kd.int .u8) 0 w 0 ok v xs) : (convert src dst v).run P w = .ok (.string (strOfNums xs)) w := by
  obtain ⟨A, c, rfl, _, hF⟩ := h
  exact Kd.C_string hs he hd (Kd.F_now hF)
theorem lit_conv {P : Program} {ops : Array Oper} {rest : List Oper} {o : Oper} {a : Act} {Q : Exit → Act → World → Prop} {W : World} (hgd : o.guard = none) (t e : TypeId) (x : Operand) (ho : o.op = .convert t t x)
    (ht : P.underlying t = some (.slice e)) (he : P.underlying e = some (.int .u8)) (bs : List Int) (C : Array Value) (hC : C = (nums .u8 bs).toArray) (n : Nat) (hn : n = bs.length) (hm : bs.length ≤ 9223372036854775807) (hx : a.eval x = .slice (some ⟨W.heap.size, 0, none⟩) n n)
    (h : ∀ v w1, Kd.V (Kd.int .u8) e w1 W.heap.size (fun k => W.heap.size ≤ k) v bs → Below W.heap.size W w1 → wpList P ops Q rest (a.put o.dst v) w1) : wpList P ops Q (o :: rest) a (W.alloc (.cells C e)) := by
  subst hn
  have hrun : (execOp a.eval o).run P (W.alloc (.cells C e)) = .ok (.value (.slice (some ⟨W.heap.size, 0, none⟩) bs.length bs.length)) (W.alloc (.cells C e (C.size, C.size + 1))) := by
    have h1 := Lib.run_convert_bytes_const (P := P) W t e C bs.length bs.length ht he
    unfold execOp
    simp only [ho, Sem.run_bind, hx, h1, Result.andThen_ok, Sem.run_pure]
  refine Kd.event_run hgd hrun (h _ _ ⟨some ⟨W.heap.size, 0, none⟩, bs.length, rfl, Nat.le_refl _, fun W' hW => ?_⟩ (below_alloc (Below.refl _ _) _))
  have hblk : W'.heap[W.heap.size]? = some (.cells C e (C.size, C.size + 1)) := (hW W.heap.size (Nat.le_refl _) (by simp)).trans (heap_alloc_new W _)
  refine Kd.C_of_reads (d := (0 : Int)) (h1 := fun _ => rfl) ⟨rfl, hm, fun _ => ⟨⟨W.heap.size, 0, none⟩, rfl, fun j hj => ?_⟩⟩
  rw [add_plain]
  simp only [World.cell?, hblk, hC]
  simp [nums, List.getElem?_eq_getElem hj, List.getD_eq_getElem?_getD]
def hylit100000.f : Option (List Int) := some [120]
def decklelaw03_small.f (k : Nat)  : Option (Bool) := (varint_Take.f k (([172, 2, 9] : List Int))).bind fun bt121 => ((varint_Take.f k (([128, 0] : List Int))).bind fun bt127 => ((varint_Take.f k (([128] : List Int))).bind fun bt133 => ((varint_Take.f k (([255, 255, 255, 255, 255, 255, 255, 255, 255, 2] : List Int))).bind fun bt139 => ((varint_Take.f k (([255, 255, 255, 255, 255, 255, 255, 255, 255, 1] : List Int))).bind fun bt145 => (if bt121.1 = 300 then (if bt121.2.1 = 2 then (if bt121.2.2 = 0 then (if bt127.2.2 = 3 then (if bt133.2.2 = 2 then (if bt139.2.2 = 3 then (if bt145.1 = 18446744073709551615 then (if bt145.2.1 = 10 then (if bt145.2.2 = 0 then ((hylit100000.f).bind fun t148 => ((varint_Put.f k t148 (([0, 127, 128] : List Int))).bind fun t154 => (if (strOfNums t154).toList = ([120, 0, 127, 128, 1] : List UInt8) then ((varint_Size.f k 127).bind fun t157 => (if t157 = 1 then ((varint_Size.f k 128).bind fun t158 => (if t158 = 2 then ((varint_Zig.f (-1)).bind fun t159 => (if t159 = 1 then ((varint_Zig.f 1).bind fun t160 => (if t160 = 2 then ((varint_Zag.f 3).bind fun t161 => (if t161 = (-2) then ((varint_Zag.f 18446744073709551615).bind fun t162 => (some (t162 == (-9223372036854775808)))) else (none))) else (none))) else (none))) else (none))) else (none))) else (none)))) else (none)) else (none)) else (none)) else (none)) else (none)) else (none)) else (none)) else (none)) else (none))))))
theorem decklelaw03_small.mono : ∀ k, LeO (decklelaw03_small.f k ) (decklelaw03_small.f (k + 1) ) := by
  intro  k
  unfold decklelaw03_small.f
  repeat' first
      | (with_reducible exact varint_Put.mono _ _ _)
      | (with_reducible exact varint_Size.mono _ _)
      | (with_reducible exact varint_Take.mono _ _)
      | (with_reducible exact LeO.refl _)
      | (with_reducible exact LeO.none _)
      | (with_reducible refine LeO.ite ?_ ?_)
      | (with_reducible refine LeO.bind ?_ (fun _ => ?_))
      | exact varint_Put.mono _ _ _
      | exact varint_Size.mono _ _
      | exact varint_Take.mono _ _
      | exact LeO.none _
      | refine LeO.ite ?_ ?_
      | refine LeO.bind ?_ (fun _ => ?_)
set_option maxHeartbeats 8000000 in
set_option maxRecDepth 100000 in
theorem decklelaw03_small.calls (k : Nat)  (r : Bool) (w : World) (h : decklelaw03_small.f k  = some r) :
    Calls Try.prog 9 #[] w fun e w' => e = .returned (.bool r) ∧ Below w.heap.size w w' := by
  have HB := Aside0.mk (Below.refl w.heap.size w)
  have H : ((varint_Take.f k (([172, 2, 9] : List Int))).bind fun bt121 => ((varint_Take.f k (([128, 0] : List Int))).bind fun bt127 => ((varint_Take.f k (([128] : List Int))).bind fun bt133 => ((varint_Take.f k (([255, 255, 255, 255, 255, 255, 255, 255, 255, 2] : List Int))).bind fun bt139 => ((varint_Take.f k (([255, 255, 255, 255, 255, 255, 255, 255, 255, 1] : List Int))).bind fun bt145 => (if bt121.1 = 300 then (if bt121.2.1 = 2 then (if bt121.2.2 = 0 then (if bt127.2.2 = 3 then (if bt133.2.2 = 2 then (if bt139.2.2 = 3 then (if bt145.1 = 18446744073709551615 then (if bt145.2.1 = 10 then (if bt145.2.2 = 0 then ((hylit100000.f).bind fun t148 => ((varint_Put.f k t148 (([0, 127, 128] : List Int))).bind fun t154 => (if (strOfNums t154).toList = ([120, 0, 127, 128, 1] : List UInt8) then ((varint_Size.f k 127).bind fun t157 => (if t157 = 1 then ((varint_Size.f k 128).bind fun t158 => (if t158 = 2 then ((varint_Zig.f (-1)).bind fun t159 => (if t159 = 1 then ((varint_Zig.f 1).bind fun t160 => (if t160 = 2 then ((varint_Zag.f 3).bind fun t161 => (if t161 = (-2) then ((varint_Zag.f 18446744073709551615).bind fun t162 => (some (t162 == (-9223372036854775808)))) else (none))) else (none))) else (none))) else (none))) else (none))) else (none)))) else (none)) else (none)) else (none)) else (none)) else (none)) else (none)) else (none)) else (none)) else (none))))))) = some r := h
  clear h
  obtain ⟨y118, hy118⟩ : ∃ y_ : List Int, y_ = (([172, 2, 9] : List Int)) := ⟨_, rfl⟩
  replace H : ((varint_Take.f k y118).bind fun bt121 => ((varint_Take.f k (([128, 0] : List Int))).bind fun bt127 => ((varint_Take.f k (([128] : List Int))).bind fun bt133 => ((varint_Take.f k (([255, 255, 255, 255, 255, 255, 255, 255, 255, 2] : List Int))).bind fun bt139 => ((varint_Take.f k (([255, 255, 255, 255, 255, 255, 255, 255, 255, 1] : List Int))).bind fun bt145 => (if bt121.1 = 300 then (if bt121.2.1 = 2 then (if bt121.2.2 = 0 then (if bt127.2.2 = 3 then (if bt133.2.2 = 2 then (if bt139.2.2 = 3 then (if bt145.1 = 18446744073709551615 then (if bt145.2.1 = 10 then (if bt145.2.2 = 0 then ((hylit100000.f).bind fun t148 => ((varint_Put.f k t148 (([0, 127, 128] : List Int))).bind fun t154 => (if (strOfNums t154).toList = ([120, 0, 127, 128, 1] : List UInt8) then ((varint_Size.f k 127).bind fun t157 => (if t157 = 1 then ((varint_Size.f k 128).bind fun t158 => (if t158 = 2 then ((varint_Zig.f (-1)).bind fun t159 => (if t159 = 1 then ((varint_Zig.f 1).bind fun t160 => (if t160 = 2 then ((varint_Zag.f 3).bind fun t161 => (if t161 = (-2) then ((varint_Zag.f 18446744073709551615).bind fun t162 => (some (t162 == (-9223372036854775808)))) else (none))) else (none))) else (none))) else (none))) else (none))) else (none)))) else (none)) else (none)) else (none)) else (none)) else (none)) else (none)) else (none)) else (none)) else (none))))))) = some r := by first | (rw [hy118]; with_reducible exact H) | (have H2_ := (Option.bind_some _ _).symm.trans H; rw [hy118]; with_reducible exact H2_) | (have H2_ := (Option.bind_some _ _).symm.trans H; with_reducible exact H2_) | with_reducible exact H | (rw [hy118]; exact H) | exact H
  have Ny118 := Aside0.mk hy118
  clear hy118
  replace H := Option.bind_eq_some_iff.mp H
  obtain ⟨⟨t121, t122, t123⟩, A10, H⟩ := H
  replace H : ((varint_Take.f k (([128, 0] : List Int))).bind fun bt127 => ((varint_Take.f k (([128] : List Int))).bind fun bt133 => ((varint_Take.f k (([255, 255, 255, 255, 255, 255, 255, 255, 255, 2] : List Int))).bind fun bt139 => ((varint_Take.f k (([255, 255, 255, 255, 255, 255, 255, 255, 255, 1] : List Int))).bind fun bt145 => (if t121 = 300 then (if t122 = 2 then (if t123 = 0 then (if bt127.2.2 = 3 then (if bt133.2.2 = 2 then (if bt139.2.2 = 3 then (if bt145.1 = 18446744073709551615 then (if bt145.2.1 = 10 then (if bt145.2.2 = 0 then ((hylit100000.f).bind fun t148 => ((varint_Put.f k t148 (([0, 127, 128] : List Int))).bind fun t154 => (if (strOfNums t154).toList = ([120, 0, 127, 128, 1] : List UInt8) then ((varint_Size.f k 127).bind fun t157 => (if t157 = 1 then ((varint_Size.f k 128).bind fun t158 => (if t158 = 2 then ((varint_Zig.f (-1)).bind fun t159 => (if t159 = 1 then ((varint_Zig.f 1).bind fun t160 => (if t160 = 2 then ((varint_Zag.f 3).bind fun t161 => (if t161 = (-2) then ((varint_Zag.f 18446744073709551615).bind fun t162 => (some (t162 == (-9223372036854775808)))) else (none))) else (none))) else (none))) else (none))) else (none))) else (none)))) else (none)) else (none)) else (none)) else (none)) else (none)) else (none)) else (none)) else (none)) else (none)))))) = some r := H
  have A1 := Aside0.mk A10
  clear A10
  obtain ⟨y124, hy124⟩ : ∃ y_ : List Int, y_ = (([128, 0] : List Int)) := ⟨_, rfl⟩
  replace H : ((varint_Take.f k y124).bind fun bt127 => ((varint_Take.f k (([128] : List Int))).bind fun bt133 => ((varint_Take.f k (([255, 255, 255, 255, 255, 255, 255, 255, 255, 2] : List Int))).bind fun bt139 => ((varint_Take.f k (([255, 255, 255, 255, 255, 255, 255, 255, 255, 1] : List Int))).bind fun bt145 => (if t121 = 300 then (if t122 = 2 then (if t123 = 0 then (if bt127.2.2 = 3 then (if bt133.2.2 = 2 then (if bt139.2.2 = 3 then (if bt145.1 = 18446744073709551615 then (if bt145.2.1 = 10 then (if bt145.2.2 = 0 then ((hylit100000.f).bind fun t148 => ((varint_Put.f k t148 (([0, 127, 128] : List Int))).bind fun t154 => (if (strOfNums t154).toList = ([120, 0, 127, 128, 1] : List UInt8) then ((varint_Size.f k 127).bind fun t157 => (if t157 = 1 then ((varint_Size.f k 128).bind fun t158 => (if t158 = 2 then ((varint_Zig.f (-1)).bind fun t159 => (if t159 = 1 then ((varint_Zig.f 1).bind fun t160 => (if t160 = 2 then ((varint_Zag.f 3).bind fun t161 => (if t161 = (-2) then ((varint_Zag.f 18446744073709551615).bind fun t162 => (some (t162 == (-9223372036854775808)))) else (none))) else (none))) else (none))) else (none))) else (none))) else (none)))) else (none)) else (none)) else (none)) else (none)) else (none)) else (none)) else (none)) else (none)) else (none)))))) = some r := by first | (rw [hy124]; with_reducible exact H) | (have H2_ := (Option.bind_some _ _).symm.trans H; rw [hy124]; with_reducible exact H2_) | (have H2_ := (Option.bind_some _ _).symm.trans H; with_reducible exact H2_) | with_reducible exact H | (rw [hy124]; exact H) | exact H
  have Ny124 := Aside0.mk hy124
  clear hy124
  replace H := Option.bind_eq_some_iff.mp H
  obtain ⟨⟨t127, t128, t129⟩, A20, H⟩ := H
  replace H : ((varint_Take.f k (([128] : List Int))).bind fun bt133 => ((varint_Take.f k (([255, 255, 255, 255, 255, 255, 255, 255, 255, 2] : List Int))).bind fun bt139 => ((varint_Take.f k (([255, 255, 255, 255, 255, 255, 255, 255, 255, 1] : List Int))).bind fun bt145 => (if t121 = 300 then (if t122 = 2 then (if t123 = 0 then (if t129 = 3 then (if bt133.2.2 = 2 then (if bt139.2.2 = 3 then (if bt145.1 = 18446744073709551615 then (if bt145.2.1 = 10 then (if bt145.2.2 = 0 then ((hylit100000.f).bind fun t148 => ((varint_Put.f k t148 (([0, 127, 128] : List Int))).bind fun t154 => (if (strOfNums t154).toList = ([120, 0, 127, 128, 1] : List UInt8) then ((varint_Size.f k 127).bind fun t157 => (if t157 = 1 then ((varint_Size.f k 128).bind fun t158 => (if t158 = 2 then ((varint_Zig.f (-1)).bind fun t159 => (if t159 = 1 then ((varint_Zig.f 1).bind fun t160 => (if t160 = 2 then ((varint_Zag.f 3).bind fun t161 => (if t161 = (-2) then ((varint_Zag.f 18446744073709551615).bind fun t162 => (some (t162 == (-9223372036854775808)))) else (none))) else (none))) else (none))) else (none))) else (none))) else (none)))) else (none)) else (none)) else (none)) else (none)) else (none)) else (none)) else (none)) else (none)) else (none))))) = some r := H
  have A2 := Aside0.mk A20
  clear A20
  obtain ⟨y130, hy130⟩ : ∃ y_ : List Int, y_ = (([128] : List Int)) := ⟨_, rfl⟩
  replace H : ((varint_Take.f k y130).bind fun bt133 => ((varint_Take.f k (([255, 255, 255, 255, 255, 255, 255, 255, 255, 2] : List Int))).bind fun bt139 => ((varint_Take.f k (([255, 255, 255, 255, 255, 255, 255, 255, 255, 1] : List Int))).bind fun bt145 => (if t121 = 300 then (if t122 = 2 then (if t123 = 0 then (if t129 = 3 then (if bt133.2.2 = 2 then (if bt139.2.2 = 3 then (if bt145.1 = 18446744073709551615 then (if bt145.2.1 = 10 then (if bt145.2.2 = 0 then ((hylit100000.f).bind fun t148 => ((varint_Put.f k t148 (([0, 127, 128] : List Int))).bind fun t154 => (if (strOfNums t154).toList = ([120, 0, 127, 128, 1] : List UInt8) then ((varint_Size.f k 127).bind fun t157 => (if t157 = 1 then ((varint_Size.f k 128).bind fun t158 => (if t158 = 2 then ((varint_Zig.f (-1)).bind fun t159 => (if t159 = 1 then ((varint_Zig.f 1).bind fun t160 => (if t160 = 2 then ((varint_Zag.f 3).bind fun t161 => (if t161 = (-2) then ((varint_Zag.f 18446744073709551615).bind fun t162 => (some (t162 == (-9223372036854775808)))) else (none))) else (none))) else (none))) else (none))) else (none))) else (none)))) else (none)) else (none)) else (none)) else (none)) else (none)) else (none)) else (none)) else (none)) else (none))))) = some r := by first | (rw [hy130]; with_reducible exact H) | (have H2_ := (Option.bind_some _ _).symm.trans H; rw [hy130]; with_reducible exact H2_) | (have H2_ := (Option.bind_some _ _).symm.trans H; with_reducible exact H2_) | with_reducible exact H | (rw [hy130]; exact H) | exact H
  have Ny130 := Aside0.mk hy130
  clear hy130
  replace H := Option.bind_eq_some_iff.mp H
  obtain ⟨⟨t133, t134, t135⟩, A30, H⟩ := H
  replace H : ((varint_Take.f k (([255, 255, 255, 255, 255, 255, 255, 255, 255, 2] : List Int))).bind fun bt139 => ((varint_Take.f k (([255, 255, 255, 255, 255, 255, 255, 255, 255, 1] : List Int))).bind fun bt145 => (if t121 = 300 then (if t122 = 2 then (if t123 = 0 then (if t129 = 3 then (if t135 = 2 then (if bt139.2.2 = 3 then (if bt145.1 = 18446744073709551615 then (if bt145.2.1 = 10 then (if bt145.2.2 = 0 then ((hylit100000.f).bind fun t148 => ((varint_Put.f k t148 (([0, 127, 128] : List Int))).bind fun t154 => (if (strOfNums t154).toList = ([120, 0, 127, 128, 1] : List UInt8) then ((varint_Size.f k 127).bind fun t157 => (if t157 = 1 then ((varint_Size.f k 128).bind fun t158 => (if t158 = 2 then ((varint_Zig.f (-1)).bind fun t159 => (if t159 = 1 then ((varint_Zig.f 1).bind fun t160 => (if t160 = 2 then ((varint_Zag.f 3).bind fun t161 => (if t161 = (-2) then ((varint_Zag.f 18446744073709551615).bind fun t162 => (some (t162 == (-9223372036854775808)))) else (none))) else (none))) else (none))) else (none))) else (none))) else (none)))) else (none)) else (none)) else (none)) else (none)) else (none)) else (none)) else (none)) else (none)) else (none)))) = some r := H
  have A3 := Aside0.mk A30
  clear A30
  obtain ⟨y136, hy136⟩ : ∃ y_ : List Int, y_ = (([255, 255, 255, 255, 255, 255, 255, 255, 255, 2] : List Int)) := ⟨_, rfl⟩
  replace H : ((varint_Take.f k y136).bind fun bt139 => ((varint_Take.f k (([255, 255, 255, 255, 255, 255, 255, 255, 255, 1] : List Int))).bind fun bt145 => (if t121 = 300 then (if t122 = 2 then (if t123 = 0 then (if t129 = 3 then (if t135 = 2 then (if bt139.2.2 = 3 then (if bt145.1 = 18446744073709551615 then (if bt145.2.1 = 10 then (if bt145.2.2 = 0 then ((hylit100000.f).bind fun t148 => ((varint_Put.f k t148 (([0, 127, 128] : List Int))).bind fun t154 => (if (strOfNums t154).toList = ([120, 0, 127, 128, 1] : List UInt8) then ((varint_Size.f k 127).bind fun t157 => (if t157 = 1 then ((varint_Size.f k 128).bind fun t158 => (if t158 = 2 then ((varint_Zig.f (-1)).bind fun t159 => (if t159 = 1 then ((varint_Zig.f 1).bind fun t160 => (if t160 = 2 then ((varint_Zag.f 3).bind fun t161 => (if t161 = (-2) then ((varint_Zag.f 18446744073709551615).bind fun t162 => (some (t162 == (-9223372036854775808)))) else (none))) else (none))) else (none))) else (none))) else (none))) else (none)))) else (none)) else (none)) else (none)) else (none)) else (none)) else (none)) else (none)) else (none)) else (none)))) = some r := by first | (rw [hy136]; with_reducible exact H) | (have H2_ := (Option.bind_some _ _).symm.trans H; rw [hy136]; with_reducible exact H2_) | (have H2_ := (Option.bind_some _ _).symm.trans H; with_reducible exact H2_) | with_reducible exact H | (rw [hy136]; exact H) | exact H
  have Ny136 := Aside0.mk hy136
  clear hy136
  replace H := Option.bind_eq_some_iff.mp H
  obtain ⟨⟨t139, t140, t141⟩, A40, H⟩ := H
  replace H : ((varint_Take.f k (([255, 255, 255, 255, 255, 255, 255, 255, 255, 1] : List Int))).bind fun bt145 => (if t121 = 300 then (if t122 = 2 then (if t123 = 0 then (if t129 = 3 then (if t135 = 2 then (if t141 = 3 then (if bt145.1 = 18446744073709551615 then (if bt145.2.1 = 10 then (if bt145.2.2 = 0 then ((hylit100000.f).bind fun t148 => ((varint_Put.f k t148 (([0, 127, 128] : List Int))).bind fun t154 => (if (strOfNums t154).toList = ([120, 0, 127, 128, 1] : List UInt8) then ((varint_Size.f k 127).bind fun t157 => (if t157 = 1 then ((varint_Size.f k 128).bind fun t158 => (if t158 = 2 then ((varint_Zig.f (-1)).bind fun t159 => (if t159 = 1 then ((varint_Zig.f 1).bind fun t160 => (if t160 = 2 then ((varint_Zag.f 3).bind fun t161 => (if t161 = (-2) then ((varint_Zag.f 18446744073709551615).bind fun t162 => (some (t162 == (-9223372036854775808)))) else (none))) else (none))) else (none))) else (none))) else (none))) else (none)))) else (none)) else (none)) else (none)) else (none)) else (none)) else (none)) else (none)) else (none)) else (none))) = some r := H
  have A4 := Aside0.mk A40
  clear A40
  obtain ⟨y142, hy142⟩ : ∃ y_ : List Int, y_ = (([255, 255, 255, 255, 255, 255, 255, 255, 255, 1] : List Int)) := ⟨_, rfl⟩
  replace H : ((varint_Take.f k y142).bind fun bt145 => (if t121 = 300 then (if t122 = 2 then (if t123 = 0 then (if t129 = 3 then (if t135 = 2 then (if t141 = 3 then (if bt145.1 = 18446744073709551615 then (if bt145.2.1 = 10 then (if bt145.2.2 = 0 then ((hylit100000.f).bind fun t148 => ((varint_Put.f k t148 (([0, 127, 128] : List Int))).bind fun t154 => (if (strOfNums t154).toList = ([120, 0, 127, 128, 1] : List UInt8) then ((varint_Size.f k 127).bind fun t157 => (if t157 = 1 then ((varint_Size.f k 128).bind fun t158 => (if t158 = 2 then ((varint_Zig.f (-1)).bind fun t159 => (if t159 = 1 then ((varint_Zig.f 1).bind fun t160 => (if t160 = 2 then ((varint_Zag.f 3).bind fun t161 => (if t161 = (-2) then ((varint_Zag.f 18446744073709551615).bind fun t162 => (some (t162 == (-9223372036854775808)))) else (none))) else (none))) else (none))) else (none))) else (none))) else (none)))) else (none)) else (none)) else (none)) else (none)) else (none)) else (none)) else (none)) else (none)) else (none))) = some r := by first | (rw [hy142]; with_reducible exact H) | (have H2_ := (Option.bind_some _ _).symm.trans H; rw [hy142]; with_reducible exact H2_) | (have H2_ := (Option.bind_some _ _).symm.trans H; with_reducible exact H2_) | with_reducible exact H | (rw [hy142]; exact H) | exact H
  have Ny142 := Aside0.mk hy142
  clear hy142
  replace H := Option.bind_eq_some_iff.mp H
  obtain ⟨⟨t145, t146, t147⟩, A50, H⟩ := H
  replace H : (if t121 = 300 then (if t122 = 2 then (if t123 = 0 then (if t129 = 3 then (if t135 = 2 then (if t141 = 3 then (if t145 = 18446744073709551615 then (if t146 = 10 then (if t147 = 0 then ((hylit100000.f).bind fun t148 => ((varint_Put.f k t148 (([0, 127, 128] : List Int))).bind fun t154 => (if (strOfNums t154).toList = ([120, 0, 127, 128, 1] : List UInt8) then ((varint_Size.f k 127).bind fun t157 => (if t157 = 1 then ((varint_Size.f k 128).bind fun t158 => (if t158 = 2 then ((varint_Zig.f (-1)).bind fun t159 => (if t159 = 1 then ((varint_Zig.f 1).bind fun t160 => (if t160 = 2 then ((varint_Zag.f 3).bind fun t161 => (if t161 = (-2) then ((varint_Zag.f 18446744073709551615).bind fun t162 => (some (t162 == (-9223372036854775808)))) else (none))) else (none))) else (none))) else (none))) else (none))) else (none)))) else (none)) else (none)) else (none)) else (none)) else (none)) else (none)) else (none)) else (none)) else (none)) = some r := H
  have A5 := Aside0.mk A50
  clear A50
  by_cases c6 : t121 = 300
  · rw [if_pos c6] at H
    have c6b0 : (t121 == 300) = true := beq_iff_eq.mpr c6
    have c6b1 : (t121 != 300) = false := bne_eq_false_iff_eq.mpr c6
    clear c6
    by_cases c7 : t122 = 2
    · rw [if_pos c7] at H
      have c7b0 : (t122 == 2) = true := beq_iff_eq.mpr c7
      have c7b1 : (t122 != 2) = false := bne_eq_false_iff_eq.mpr c7
      clear c7
      by_cases c8 : t123 = 0
      · rw [if_pos c8] at H
        have c8b0 : (t123 == 0) = true := beq_iff_eq.mpr c8
        have c8b1 : (t123 != 0) = false := bne_eq_false_iff_eq.mpr c8
        clear c8
        by_cases c9 : t129 = 3
        · rw [if_pos c9] at H
          have c9b0 : (t129 == 3) = true := beq_iff_eq.mpr c9
          have c9b1 : (t129 != 3) = false := bne_eq_false_iff_eq.mpr c9
          clear c9
          by_cases c10 : t135 = 2
          · rw [if_pos c10] at H
            have c10b0 : (t135 == 2) = true := beq_iff_eq.mpr c10
            have c10b1 : (t135 != 2) = false := bne_eq_false_iff_eq.mpr c10
            clear c10
            by_cases c11 : t141 = 3
            · rw [if_pos c11] at H
              have c11b0 : (t141 == 3) = true := beq_iff_eq.mpr c11
              have c11b1 : (t141 != 3) = false := bne_eq_false_iff_eq.mpr c11
              clear c11
              by_cases c12 : t145 = 18446744073709551615
              · rw [if_pos c12] at H
                have c12b0 : (t145 == 18446744073709551615) = true := beq_iff_eq.mpr c12
                have c12b1 : (t145 != 18446744073709551615) = false := bne_eq_false_iff_eq.mpr c12
                clear c12
                by_cases c13 : t146 = 10
                · rw [if_pos c13] at H
                  have c13b0 : (t146 == 10) = true := beq_iff_eq.mpr c13
                  have c13b1 : (t146 != 10) = false := bne_eq_false_iff_eq.mpr c13
                  clear c13
                  by_cases c14 : t147 = 0
                  · rw [if_pos c14] at H
                    have c14b0 : (t147 == 0) = true := beq_iff_eq.mpr c14
                    have c14b1 : (t147 != 0) = false := bne_eq_false_iff_eq.mpr c14
                    clear c14
                    replace H := Option.bind_eq_some_iff.mp H
                    obtain ⟨t148, A150, H⟩ := H
                    replace H : ((varint_Put.f k t148 (([0, 127, 128] : List Int))).bind fun t154 => (if (strOfNums t154).toList = ([120, 0, 127, 128, 1] : List UInt8) then ((varint_Size.f k 127).bind fun t157 => (if t157 = 1 then ((varint_Size.f k 128).bind fun t158 => (if t158 = 2 then ((varint_Zig.f (-1)).bind fun t159 => (if t159 = 1 then ((varint_Zig.f 1).bind fun t160 => (if t160 = 2 then ((varint_Zag.f 3).bind fun t161 => (if t161 = (-2) then ((varint_Zag.f 18446744073709551615).bind fun t162 => (some (t162 == (-9223372036854775808)))) else (none))) else (none))) else (none))) else (none))) else (none))) else (none))) = some r := H
                    have A15 := Aside0.mk A150
                    clear A150
                    obtain ⟨y151, hy151⟩ : ∃ y_ : List Int, y_ = (([0, 127, 128] : List Int)) := ⟨_, rfl⟩
                    replace H : ((varint_Put.f k t148 y151).bind fun t154 => (if (strOfNums t154).toList = ([120, 0, 127, 128, 1] : List UInt8) then ((varint_Size.f k 127).bind fun t157 => (if t157 = 1 then ((varint_Size.f k 128).bind fun t158 => (if t158 = 2 then ((varint_Zig.f (-1)).bind fun t159 => (if t159 = 1 then ((varint_Zig.f 1).bind fun t160 => (if t160 = 2 then ((varint_Zag.f 3).bind fun t161 => (if t161 = (-2) then ((varint_Zag.f 18446744073709551615).bind fun t162 => (some (t162 == (-9223372036854775808)))) else (none))) else (none))) else (none))) else (none))) else (none))) else (none))) = some r := by first | (rw [hy151]; with_reducible exact H) | (have H2_ := (Option.bind_some _ _).symm.trans H; rw [hy151]; with_reducible exact H2_) | (have H2_ := (Option.bind_some _ _).symm.trans H; with_reducible exact H2_) | with_reducible exact H | (rw [hy151]; exact H) | exact H
                    have Ny151 := Aside0.mk hy151
                    clear hy151
                    replace H := Option.bind_eq_some_iff.mp H
                    obtain ⟨t154, A160, H⟩ := H
                    replace H : (if (strOfNums t154).toList = ([120, 0, 127, 128, 1] : List UInt8) then ((varint_Size.f k 127).bind fun t157 => (if t157 = 1 then ((varint_Size.f k 128).bind fun t158 => (if t158 = 2 then ((varint_Zig.f (-1)).bind fun t159 => (if t159 = 1 then ((varint_Zig.f 1).bind fun t160 => (if t160 = 2 then ((varint_Zag.f 3).bind fun t161 => (if t161 = (-2) then ((varint_Zag.f 18446744073709551615).bind fun t162 => (some (t162 == (-9223372036854775808)))) else (none))) else (none))) else (none))) else (none))) else (none))) else (none)) = some r := H
                    have A16 := Aside0.mk A160
                    clear A160
                    by_cases c17 : (strOfNums t154).toList = ([120, 0, 127, 128, 1] : List UInt8)
                    · rw [if_pos c17] at H
                      have c17b0 : ((strOfNums t154).toList == ([120, 0, 127, 128, 1] : List UInt8)) = true := beq_iff_eq.mpr c17
                      have c17b1 : ((strOfNums t154).toList != ([120, 0, 127, 128, 1] : List UInt8)) = false := bne_eq_false_iff_eq.mpr c17
                      clear c17
                      replace H := Option.bind_eq_some_iff.mp H
                      obtain ⟨t157, A180, H⟩ := H
                      replace H : (if t157 = 1 then ((varint_Size.f k 128).bind fun t158 => (if t158 = 2 then ((varint_Zig.f (-1)).bind fun t159 => (if t159 = 1 then ((varint_Zig.f 1).bind fun t160 => (if t160 = 2 then ((varint_Zag.f 3).bind fun t161 => (if t161 = (-2) then ((varint_Zag.f 18446744073709551615).bind fun t162 => (some (t162 == (-9223372036854775808)))) else (none))) else (none))) else (none))) else (none))) else (none)) = some r := H
                      have A18 := Aside0.mk A180
                      clear A180
                      by_cases c19 : t157 = 1
                      · rw [if_pos c19] at H
                        have c19b0 : (t157 == 1) = true := beq_iff_eq.mpr c19
                        have c19b1 : (t157 != 1) = false := bne_eq_false_iff_eq.mpr c19
                        clear c19
                        replace H := Option.bind_eq_some_iff.mp H
                        obtain ⟨t158, A200, H⟩ := H
                        replace H : (if t158 = 2 then ((varint_Zig.f (-1)).bind fun t159 => (if t159 = 1 then ((varint_Zig.f 1).bind fun t160 => (if t160 = 2 then ((varint_Zag.f 3).bind fun t161 => (if t161 = (-2) then ((varint_Zag.f 18446744073709551615).bind fun t162 => (some (t162 == (-9223372036854775808)))) else (none))) else (none))) else (none))) else (none)) = some r := H
                        have A20 := Aside0.mk A200
                        clear A200
                        by_cases c21 : t158 = 2
                        · rw [if_pos c21] at H
                          have c21b0 : (t158 == 2) = true := beq_iff_eq.mpr c21
                          have c21b1 : (t158 != 2) = false := bne_eq_false_iff_eq.mpr c21
                          clear c21
                          replace H := Option.bind_eq_some_iff.mp H
                          obtain ⟨t159, A220, H⟩ := H
                          replace H : (if t159 = 1 then ((varint_Zig.f 1).bind fun t160 => (if t160 = 2 then ((varint_Zag.f 3).bind fun t161 => (if t161 = (-2) then ((varint_Zag.f 18446744073709551615).bind fun t162 => (some (t162 == (-9223372036854775808)))) else (none))) else (none))) else (none)) = some r := H
                          have A22 := Aside0.mk A220
                          clear A220
                          by_cases c23 : t159 = 1
                          · rw [if_pos c23] at H
                            have c23b0 : (t159 == 1) = true := beq_iff_eq.mpr c23
                            have c23b1 : (t159 != 1) = false := bne_eq_false_iff_eq.mpr c23
                            clear c23
                            replace H := Option.bind_eq_some_iff.mp H
                            obtain ⟨t160, A240, H⟩ := H
                            replace H : (if t160 = 2 then ((varint_Zag.f 3).bind fun t161 => (if t161 = (-2) then ((varint_Zag.f 18446744073709551615).bind fun t162 => (some (t162 == (-9223372036854775808)))) else (none))) else (none)) = some r := H
                            have A24 := Aside0.mk A240
                            clear A240
                            by_cases c25 : t160 = 2
                            · rw [if_pos c25] at H
                              have c25b0 : (t160 == 2) = true := beq_iff_eq.mpr c25
                              have c25b1 : (t160 != 2) = false := bne_eq_false_iff_eq.mpr c25
                              clear c25
                              replace H := Option.bind_eq_some_iff.mp H
                              obtain ⟨t161, A260, H⟩ := H
                              replace H : (if t161 = (-2) then ((varint_Zag.f 18446744073709551615).bind fun t162 => (some (t162 == (-9223372036854775808)))) else (none)) = some r := H
                              have A26 := Aside0.mk A260
                              clear A260
                              by_cases c27 : t161 = (-2)
                              · rw [if_pos c27] at H
                                have c27b0 : (t161 == (-2)) = true := beq_iff_eq.mpr c27
                                have c27b1 : (t161 != (-2)) = false := bne_eq_false_iff_eq.mpr c27
                                clear c27
                                replace H := Option.bind_eq_some_iff.mp H
                                obtain ⟨t162, A280, H⟩ := H
                                replace H : (some (t162 == (-9223372036854775808))) = some r := H
                                have A28 := Aside0.mk A280
                                clear A280
                                obtain rfl := Option.some.inj H
                                go_enter Try.func9, Try.ntmps9
                                go_wp2_with (first | ((with_reducible refine gate_dst (N := 17) rfl ?_); (try (refine gate_guard (by rfl) ?_; dsimp only)); refine Kd.R_lit (Kd.int .u8) _ 5 ?hg (N := 17) ?hd (xs := ([172, 2, 9] : List Int)) (inner := [.int .u8 172, .int .u8 2, .int .u8 9]) (ok := fun _ => True) (okp := fun _ => True) ?hr ?hp (fun _ hk => hk) trivial (Below.refl _ _) (Nat.le_refl _) (by simp) ?_; (case hd => rfl); (case hg => rfl); (case hr => first | (go_simp; done) | (go_simp; rfl)); (case hp => exact (Reps.one (show Kd.M (Kd.int .u8) _ _ _ 172 [.int .u8 172] from rfl) (Reps.one (show Kd.M (Kd.int .u8) _ _ _ 2 [.int .u8 2] from rfl) (Reps.one (show Kd.M (Kd.int .u8) _ _ _ 9 [.int .u8 9] from rfl) (Reps.none _ _))))); intro v119 w29 ho30 hb hg_ hnew_; clear hg_ hnew_; (first | rw [← Ny118.out] at ho30 | (simp only [Int.reduceToNat] at ho30; rw [← Ny118.out] at ho30)); have n0_ := Aside0.mk (Kd.R_lower ho30 (below_size (by repeat (first | (with_reducible first | exact HB.out | apply below_alloc | apply pw_below_drewN | apply below_drew1) | exact HB.out)))); have n1_ := Aside0.mk (below_step (by repeat (first | (with_reducible first | exact HB.out | apply below_alloc | apply pw_below_drewN | apply below_drew1) | exact HB.out)) hb); clear HB; have HO120 := n0_; have HB := n1_; clear n0_ n1_; clear hb ho30; obtain ⟨Ao31, co31, eo31⟩ := Kd.R_slice HO120.out; subst eo31) | ((with_reducible refine gate_callee (f := 10) rfl ?_); refine goesL_ (some 18) rfl rfl Try.func10 (by kernel_rfl) rfl #[.slice Ao31 y118.length co31] rfl (by (try simp only [List.map_toArray, List.map_cons, List.map_nil]); first | done | rfl | (simp only [List.length_drop, List.length_take]; rfl)) ?_; (with_reducible refine (varint_Take.calls k _ _ y118 t121 t122 t123 _ ?side1 ?side2 A1.out).mono ?_); (case side1 => repeat (first | exact (Kd.R_reads' HO120.out).2.2 | (with_reducible refine Kd.C_alloc ?_ _) | (with_reducible refine Kd.C_drewN ?_ _) | (with_reducible refine Kd.C_drew ?_))); (case side2 => exact (Kd.R_reads' HO120.out).2.1); rintro e w' ⟨rfl, ⟨nd, rfl⟩⟩; refine ⟨_, rfl, ?_⟩) | ((with_reducible refine gate_dst (N := 23) rfl ?_); (try (refine gate_guard (by rfl) ?_; dsimp only)); refine Kd.R_lit (Kd.int .u8) _ 5 ?hg (N := 23) ?hd (xs := ([128, 0] : List Int)) (inner := [.int .u8 128, .int .u8 0]) (ok := fun _ => True) (okp := fun _ => True) ?hr ?hp (fun _ hk => hk) trivial (Below.refl _ _) (Nat.le_refl _) (by simp) ?_; (case hd => rfl); (case hg => rfl); (case hr => first | (go_simp; done) | (go_simp; rfl)); (case hp => exact (Reps.one (show Kd.M (Kd.int .u8) _ _ _ 128 [.int .u8 128] from rfl) (Reps.one (show Kd.M (Kd.int .u8) _ _ _ 0 [.int .u8 0] from rfl) (Reps.none _ _)))); intro v125 w32 ho33 hb hg_ hnew_; clear hg_ hnew_; (first | rw [← Ny124.out] at ho33 | (simp only [Int.reduceToNat] at ho33; rw [← Ny124.out] at ho33)); have n0_ := Aside0.mk (Kd.R_elder' (by (with_reducible repeat (first | apply Kd.R_alloc | apply Kd.R_drewN | apply Kd.R_drew)); exact HO120.out) (Kd.R_base ho33) hb); have n1_ := Aside0.mk (Kd.R_lower (Kd.R_new' ho33 (Kd.R_lt (by (with_reducible repeat (first | apply Kd.R_alloc | apply Kd.R_drewN | apply Kd.R_drew)); exact HO120.out))) (below_size (by repeat (first | (with_reducible first | exact HB.out | apply below_alloc | apply pw_below_drewN | apply below_drew1) | exact HB.out)))); have n2_ := Aside0.mk (below_step (by repeat (first | (with_reducible first | exact HB.out | apply below_alloc | apply pw_below_drewN | apply below_drew1) | exact HB.out)) hb); clear HO120; clear HB; have HO120 := n0_; have HO126 := n1_; have HB := n2_; clear n0_ n1_ n2_; clear hb ho33; obtain ⟨Ao34, co34, eo34⟩ := Kd.R_slice HO126.out; subst eo34) | ((with_reducible refine gate_callee (f := 10) rfl ?_); refine goesL_ (some 24) rfl rfl Try.func10 (by kernel_rfl) rfl #[.slice Ao34 y124.length co34] rfl (by (try simp only [List.map_toArray, List.map_cons, List.map_nil]); first | done | rfl | (simp only [List.length_drop, List.length_take]; rfl)) ?_; (with_reducible refine (varint_Take.calls k _ _ y124 t127 t128 t129 _ ?side1 ?side2 A2.out).mono ?_); (case side1 => repeat (first | exact (Kd.R_reads' HO126.out).2.2 | (with_reducible refine Kd.C_alloc ?_ _) | (with_reducible refine Kd.C_drewN ?_ _) | (with_reducible refine Kd.C_drew ?_))); (case side2 => exact (Kd.R_reads' HO126.out).2.1); rintro e w' ⟨rfl, ⟨nd, rfl⟩⟩; refine ⟨_, rfl, ?_⟩) | ((with_reducible refine gate_dst (N := 29) rfl ?_); (try (refine gate_guard (by rfl) ?_; dsimp only)); refine Kd.R_lit (Kd.int .u8) _ 5 ?hg (N := 29) ?hd (xs := ([128] : List Int)) (inner := [.int .u8 128]) (ok := fun _ => True) (okp := fun _ => True) ?hr ?hp (fun _ hk => hk) trivial (Below.refl _ _) (Nat.le_refl _) (by simp) ?_; (case hd => rfl); (case hg => rfl); (case hr => first | (go_simp; done) | (go_simp; rfl)); (case hp => exact (Reps.one (show Kd.M (Kd.int .u8) _ _ _ 128 [.int .u8 128] from rfl) (Reps.none _ _))); intro v131 w35 ho36 hb hg_ hnew_; clear hg_ hnew_; (first | rw [← Ny130.out] at ho36 | (simp only [Int.reduceToNat] at ho36; rw [← Ny130.out] at ho36)); have n0_ := Aside0.mk (Kd.R_elder' (by (with_reducible repeat (first | apply Kd.R_alloc | apply Kd.R_drewN | apply Kd.R_drew)); exact HO120.out) (Kd.R_base ho36) hb); have n1_ := Aside0.mk (Kd.R_elder' (by (with_reducible repeat (first | apply Kd.R_alloc | apply Kd.R_drewN | apply Kd.R_drew)); exact HO126.out) (Kd.R_base ho36) hb); have n2_ := Aside0.mk (Kd.R_lower (Kd.R_new' (Kd.R_new' ho36 (Kd.R_lt (by (with_reducible repeat (first | apply Kd.R_alloc | apply Kd.R_drewN | apply Kd.R_drew)); exact HO120.out))) (Kd.R_lt (by (with_reducible repeat (first | apply Kd.R_alloc | apply Kd.R_drewN | apply Kd.R_drew)); exact HO126.out))) (below_size (by repeat (first | (with_reducible first | exact HB.out | apply below_alloc | apply pw_below_drewN | apply below_drew1) | exact HB.out)))); have n3_ := Aside0.mk (below_step (by repeat (first | (with_reducible first | exact HB.out | apply below_alloc | apply pw_below_drewN | apply below_drew1) | exact HB.out)) hb); clear HO120; clear HO126; clear HB; have HO120 := n0_; have HO126 := n1_; have HO132 := n2_; have HB := n3_; clear n0_ n1_ n2_ n3_; clear hb ho36; obtain ⟨Ao37, co37, eo37⟩ := Kd.R_slice HO132.out; subst eo37) | ((with_reducible refine gate_callee (f := 10) rfl ?_); refine goesL_ (some 30) rfl rfl Try.func10 (by kernel_rfl) rfl #[.slice Ao37 y130.length co37] rfl (by (try simp only [List.map_toArray, List.map_cons, List.map_nil]); first | done | rfl | (simp only [List.length_drop, List.length_take]; rfl)) ?_; (with_reducible refine (varint_Take.calls k _ _ y130 t133 t134 t135 _ ?side1 ?side2 A3.out).mono ?_); (case side1 => repeat (first | exact (Kd.R_reads' HO132.out).2.2 | (with_reducible refine Kd.C_alloc ?_ _) | (with_reducible refine Kd.C_drewN ?_ _) | (with_reducible refine Kd.C_drew ?_))); (case side2 => exact (Kd.R_reads' HO132.out).2.1); rintro e w' ⟨rfl, ⟨nd, rfl⟩⟩; refine ⟨_, rfl, ?_⟩) | ((with_reducible refine gate_dst (N := 35) rfl ?_); (try (refine gate_guard (by rfl) ?_; dsimp only)); refine Kd.R_lit (Kd.int .u8) _ 5 ?hg (N := 35) ?hd (xs := ([255, 255, 255, 255, 255, 255, 255, 255, 255, 2] : List Int)) (inner := [.int .u8 255, .int .u8 255, .int .u8 255, .int .u8 255, .int .u8 255, .int .u8 255, .int .u8 255, .int .u8 255, .int .u8 255, .int .u8 2]) (ok := fun _ => True) (okp := fun _ => True) ?hr ?hp (fun _ hk => hk) trivial (Below.refl _ _) (Nat.le_refl _) (by simp) ?_; (case hd => rfl); (case hg => rfl); (case hr => first | (go_simp; done) | (go_simp; rfl)); (case hp => exact (Reps.one (show Kd.M (Kd.int .u8) _ _ _ 255 [.int .u8 255] from rfl) (Reps.one (show Kd.M (Kd.int .u8) _ _ _ 255 [.int .u8 255] from rfl) (Reps.one (show Kd.M (Kd.int .u8) _ _ _ 255 [.int .u8 255] from rfl) (Reps.one (show Kd.M (Kd.int .u8) _ _ _ 255 [.int .u8 255] from rfl) (Reps.one (show Kd.M (Kd.int .u8) _ _ _ 255 [.int .u8 255] from rfl) (Reps.one (show Kd.M (Kd.int .u8) _ _ _ 255 [.int .u8 255] from rfl) (Reps.one (show Kd.M (Kd.int .u8) _ _ _ 255 [.int .u8 255] from rfl) (Reps.one (show Kd.M (Kd.int .u8) _ _ _ 255 [.int .u8 255] from rfl) (Reps.one (show Kd.M (Kd.int .u8) _ _ _ 255 [.int .u8 255] from rfl) (Reps.one (show Kd.M (Kd.int .u8) _ _ _ 2 [.int .u8 2] from rfl) (Reps.none _ _)))))))))))); intro v137 w38 ho39 hb hg_ hnew_; clear hg_ hnew_; (first | rw [← Ny136.out] at ho39 | (simp only [Int.reduceToNat] at ho39; rw [← Ny136.out] at ho39)); have n0_ := Aside0.mk (Kd.R_elder' (by (with_reducible repeat (first | apply Kd.R_alloc | apply Kd.R_drewN | apply Kd.R_drew)); exact HO120.out) (Kd.R_base ho39) hb); have n1_ := Aside0.mk (Kd.R_elder' (by (with_reducible repeat (first | apply Kd.R_alloc | apply Kd.R_drewN | apply Kd.R_drew)); exact HO126.out) (Kd.R_base ho39) hb); have n2_ := Aside0.mk (Kd.R_elder' (by (with_reducible repeat (first | apply Kd.R_alloc | apply Kd.R_drewN | apply Kd.R_drew)); exact HO132.out) (Kd.R_base ho39) hb); have n3_ := Aside0.mk (Kd.R_lower (Kd.R_new' (Kd.R_new' (Kd.R_new' ho39 (Kd.R_lt (by (with_reducible repeat (first | apply Kd.R_alloc | apply Kd.R_drewN | apply Kd.R_drew)); exact HO120.out))) (Kd.R_lt (by (with_reducible repeat (first | apply Kd.R_alloc | apply Kd.R_drewN | apply Kd.R_drew)); exact HO126.out))) (Kd.R_lt (by (with_reducible repeat (first | apply Kd.R_alloc | apply Kd.R_drewN | apply Kd.R_drew)); exact HO132.out))) (below_size (by repeat (first | (with_reducible first | exact HB.out | apply below_alloc | apply pw_below_drewN | apply below_drew1) | exact HB.out)))); have n4_ := Aside0.mk (below_step (by repeat (first | (with_reducible first | exact HB.out | apply below_alloc | apply pw_below_drewN | apply below_drew1) | exact HB.out)) hb); clear HO120; clear HO126; clear HO132; clear HB; have HO120 := n0_; have HO126 := n1_; have HO132 := n2_; have HO138 := n3_; have HB := n4_; clear n0_ n1_ n2_ n3_ n4_; clear hb ho39; obtain ⟨Ao40, co40, eo40⟩ := Kd.R_slice HO138.out; subst eo40) | ((with_reducible refine gate_callee (f := 10) rfl ?_); refine goesL_ (some 36) rfl rfl Try.func10 (by kernel_rfl) rfl #[.slice Ao40 y136.length co40] rfl (by (try simp only [List.map_toArray, List.map_cons, List.map_nil]); first | done | rfl | (simp only [List.length_drop, List.length_take]; rfl)) ?_; (with_reducible refine (varint_Take.calls k _ _ y136 t139 t140 t141 _ ?side1 ?side2 A4.out).mono ?_); (case side1 => repeat (first | exact (Kd.R_reads' HO138.out).2.2 | (with_reducible refine Kd.C_alloc ?_ _) | (with_reducible refine Kd.C_drewN ?_ _) | (with_reducible refine Kd.C_drew ?_))); (case side2 => exact (Kd.R_reads' HO138.out).2.1); rintro e w' ⟨rfl, ⟨nd, rfl⟩⟩; refine ⟨_, rfl, ?_⟩) | ((with_reducible refine gate_dst (N := 41) rfl ?_); (try (refine gate_guard (by rfl) ?_; dsimp only)); refine Kd.R_lit (Kd.int .u8) _ 5 ?hg (N := 41) ?hd (xs := ([255, 255, 255, 255, 255, 255, 255, 255, 255, 1] : List Int)) (inner := [.int .u8 255, .int .u8 255, .int .u8 255, .int .u8 255, .int .u8 255, .int .u8 255, .int .u8 255, .int .u8 255, .int .u8 255, .int .u8 1]) (ok := fun _ => True) (okp := fun _ => True) ?hr ?hp (fun _ hk => hk) trivial (Below.refl _ _) (Nat.le_refl _) (by simp) ?_; (case hd => rfl); (case hg => rfl); (case hr => first | (go_simp; done) | (go_simp; rfl)); (case hp => exact (Reps.one (show Kd.M (Kd.int .u8) _ _ _ 255 [.int .u8 255] from rfl) (Reps.one (show Kd.M (Kd.int .u8) _ _ _ 255 [.int .u8 255] from rfl) (Reps.one (show Kd.M (Kd.int .u8) _ _ _ 255 [.int .u8 255] from rfl) (Reps.one (show Kd.M (Kd.int .u8) _ _ _ 255 [.int .u8 255] from rfl) (Reps.one (show Kd.M (Kd.int .u8) _ _ _ 255 [.int .u8 255] from rfl) (Reps.one (show Kd.M (Kd.int .u8) _ _ _ 255 [.int .u8 255] from rfl) (Reps.one (show Kd.M (Kd.int .u8) _ _ _ 255 [.int .u8 255] from rfl) (Reps.one (show Kd.M (Kd.int .u8) _ _ _ 255 [.int .u8 255] from rfl) (Reps.one (show Kd.M (Kd.int .u8) _ _ _ 255 [.int .u8 255] from rfl) (Reps.one (show Kd.M (Kd.int .u8) _ _ _ 1 [.int .u8 1] from rfl) (Reps.none _ _)))))))))))); intro v143 w41 ho42 hb hg_ hnew_; clear hg_ hnew_; (first | rw [← Ny142.out] at ho42 | (simp only [Int.reduceToNat] at ho42; rw [← Ny142.out] at ho42)); have n0_ := Aside0.mk (Kd.R_elder' (by (with_reducible repeat (first | apply Kd.R_alloc | apply Kd.R_drewN | apply Kd.R_drew)); exact HO120.out) (Kd.R_base ho42) hb); have n1_ := Aside0.mk (Kd.R_elder' (by (with_reducible repeat (first | apply Kd.R_alloc | apply Kd.R_drewN | apply Kd.R_drew)); exact HO126.out) (Kd.R_base ho42) hb); have n2_ := Aside0.mk (Kd.R_elder' (by (with_reducible repeat (first | apply Kd.R_alloc | apply Kd.R_drewN | apply Kd.R_drew)); exact HO132.out) (Kd.R_base ho42) hb); have n3_ := Aside0.mk (Kd.R_elder' (by (with_reducible repeat (first | apply Kd.R_alloc | apply Kd.R_drewN | apply Kd.R_drew)); exact HO138.out) (Kd.R_base ho42) hb); have n4_ := Aside0.mk (Kd.R_lower (Kd.R_new' (Kd.R_new' (Kd.R_new' (Kd.R_new' ho42 (Kd.R_lt (by (with_reducible repeat (first | apply Kd.R_alloc | apply Kd.R_drewN | apply Kd.R_drew)); exact HO120.out))) (Kd.R_lt (by (with_reducible repeat (first | apply Kd.R_alloc | apply Kd.R_drewN | apply Kd.R_drew)); exact HO126.out))) (Kd.R_lt (by (with_reducible repeat (first | apply Kd.R_alloc | apply Kd.R_drewN | apply Kd.R_drew)); exact HO132.out))) (Kd.R_lt (by (with_reducible repeat (first | apply Kd.R_alloc | apply Kd.R_drewN | apply Kd.R_drew)); exact HO138.out))) (below_size (by repeat (first | (with_reducible first | exact HB.out | apply below_alloc | apply pw_below_drewN | apply below_drew1) | exact HB.out)))); have n5_ := Aside0.mk (below_step (by repeat (first | (with_reducible first | exact HB.out | apply below_alloc | apply pw_below_drewN | apply below_drew1) | exact HB.out)) hb); clear HO120; clear HO126; clear HO132; clear HO138; clear HB; have HO120 := n0_; have HO126 := n1_; have HO132 := n2_; have HO138 := n3_; have HO144 := n4_; have HB := n5_; clear n0_ n1_ n2_ n3_ n4_ n5_; clear hb ho42; obtain ⟨Ao43, co43, eo43⟩ := Kd.R_slice HO144.out; subst eo43) | ((with_reducible refine gate_callee (f := 10) rfl ?_); refine goesL_ (some 42) rfl rfl Try.func10 (by kernel_rfl) rfl #[.slice Ao43 y142.length co43] rfl (by (try simp only [List.map_toArray, List.map_cons, List.map_nil]); first | done | rfl | (simp only [List.length_drop, List.length_take]; rfl)) ?_; (with_reducible refine (varint_Take.calls k _ _ y142 t145 t146 t147 _ ?side1 ?side2 A5.out).mono ?_); (case side1 => repeat (first | exact (Kd.R_reads' HO144.out).2.2 | (with_reducible refine Kd.C_alloc ?_ _) | (with_reducible refine Kd.C_drewN ?_ _) | (with_reducible refine Kd.C_drew ?_))); (case side2 => exact (Kd.R_reads' HO144.out).2.1); rintro e w' ⟨rfl, ⟨nd, rfl⟩⟩; refine ⟨_, rfl, ?_⟩) | ((with_reducible refine gate_dst (N := 82) rfl ?_); (try (refine gate_guard (by rfl) ?_; dsimp only)); refine lit_conv (by first | rfl | assumption) 22 5 (.tmp 81) rfl Try.underlying22 Try.underlying5 [120] _ rfl _ rfl (by simp) rfl ?_; intro v149 w44 ho0 hb; rw [show ([120] : List Int) = t148 from Option.some.inj A15.out] at ho0; have n0_ := Aside0.mk (Kd.R_below (by (with_reducible repeat (first | apply Kd.R_alloc | apply Kd.R_drewN | apply Kd.R_drew)); exact HO120.out) hb); have n1_ := Aside0.mk (Kd.R_below (by (with_reducible repeat (first | apply Kd.R_alloc | apply Kd.R_drewN | apply Kd.R_drew)); exact HO126.out) hb); have n2_ := Aside0.mk (Kd.R_below (by (with_reducible repeat (first | apply Kd.R_alloc | apply Kd.R_drewN | apply Kd.R_drew)); exact HO132.out) hb); have n3_ := Aside0.mk (Kd.R_below (by (with_reducible repeat (first | apply Kd.R_alloc | apply Kd.R_drewN | apply Kd.R_drew)); exact HO138.out) hb); have n4_ := Aside0.mk (Kd.R_below (by (with_reducible repeat (first | apply Kd.R_alloc | apply Kd.R_drewN | apply Kd.R_drew)); exact HO144.out) hb); have n5_ := Aside0.mk (Kd.V_lower (Kd.V_mono (ok' := fun k_ => some k_ ≠ (.slice Ao31 y118.length co31 : Value).ownBlock ∧ some k_ ≠ (.slice Ao34 y124.length co34 : Value).ownBlock ∧ some k_ ≠ (.slice Ao37 y130.length co37 : Value).ownBlock ∧ some k_ ≠ (.slice Ao40 y136.length co40 : Value).ownBlock ∧ some k_ ≠ (.slice Ao43 y142.length co43 : Value).ownBlock) ho0 (fun k_ hk_ => ⟨(Kd.fresh' (Kd.R_lt (by (with_reducible repeat (first | apply Kd.R_alloc | apply Kd.R_drewN | apply Kd.R_drew)); exact HO120.out)) k_ hk_), (Kd.fresh' (Kd.R_lt (by (with_reducible repeat (first | apply Kd.R_alloc | apply Kd.R_drewN | apply Kd.R_drew)); exact HO126.out)) k_ hk_), (Kd.fresh' (Kd.R_lt (by (with_reducible repeat (first | apply Kd.R_alloc | apply Kd.R_drewN | apply Kd.R_drew)); exact HO132.out)) k_ hk_), (Kd.fresh' (Kd.R_lt (by (with_reducible repeat (first | apply Kd.R_alloc | apply Kd.R_drewN | apply Kd.R_drew)); exact HO138.out)) k_ hk_), (Kd.fresh' (Kd.R_lt (by (with_reducible repeat (first | apply Kd.R_alloc | apply Kd.R_drewN | apply Kd.R_drew)); exact HO144.out)) k_ hk_)⟩)) (below_size (by repeat (first | (with_reducible first | exact HB.out | apply below_alloc | apply pw_below_drewN | apply below_drew1) | exact HB.out)))); have n6_ := Aside0.mk (below_step (by repeat (first | (with_reducible first | exact HB.out | apply below_alloc | apply pw_below_drewN | apply below_drew1) | exact HB.out)) hb); clear HO120; clear HO126; clear HO132; clear HO138; clear HO144; clear HB; have HO120 := n0_; have HO126 := n1_; have HO132 := n2_; have HO138 := n3_; have HO144 := n4_; have HO150 := n5_; have HB := n6_; clear n0_ n1_ n2_ n3_ n4_ n5_ n6_; (try clear hb); (try clear hb2); (try clear hk); (try clear hi); (try clear ho0)) | ((with_reducible refine gate_dst (N := 83) rfl ?_); (try (refine gate_guard (by rfl) ?_; dsimp only)); refine Kd.R_lit (Kd.int .u64) _ 25 ?hg (N := 83) ?hd (xs := ([0, 127, 128] : List Int)) (inner := [.int .u64 0, .int .u64 127, .int .u64 128]) (ok := fun _ => True) (okp := fun _ => True) ?hr ?hp (fun _ hk => hk) trivial (Below.refl _ _) (Nat.le_refl _) (by simp) ?_; (case hd => rfl); (case hg => rfl); (case hr => first | (go_simp; done) | (go_simp; rfl)); (case hp => exact (Reps.one (show Kd.M (Kd.int .u64) _ _ _ 0 [.int .u64 0] from rfl) (Reps.one (show Kd.M (Kd.int .u64) _ _ _ 127 [.int .u64 127] from rfl) (Reps.one (show Kd.M (Kd.int .u64) _ _ _ 128 [.int .u64 128] from rfl) (Reps.none _ _))))); intro v152 w45 ho46 hb hg_ hnew_; clear hg_ hnew_; (first | rw [← Ny151.out] at ho46 | (simp only [Int.reduceToNat] at ho46; rw [← Ny151.out] at ho46)); have n0_ := Aside0.mk (Kd.R_below (by (with_reducible repeat (first | apply Kd.R_alloc | apply Kd.R_drewN | apply Kd.R_drew)); exact HO120.out) hb); have n1_ := Aside0.mk (Kd.R_below (by (with_reducible repeat (first | apply Kd.R_alloc | apply Kd.R_drewN | apply Kd.R_drew)); exact HO126.out) hb); have n2_ := Aside0.mk (Kd.R_below (by (with_reducible repeat (first | apply Kd.R_alloc | apply Kd.R_drewN | apply Kd.R_drew)); exact HO132.out) hb); have n3_ := Aside0.mk (Kd.R_below (by (with_reducible repeat (first | apply Kd.R_alloc | apply Kd.R_drewN | apply Kd.R_drew)); exact HO138.out) hb); have n4_ := Aside0.mk (Kd.R_below (by (with_reducible repeat (first | apply Kd.R_alloc | apply Kd.R_drewN | apply Kd.R_drew)); exact HO144.out) hb); have n5_ := Aside0.mk (Kd.V_elder' (by (with_reducible repeat (first | apply Kd.V_alloc | apply Kd.V_drewN | apply Kd.V_drew)); exact HO150.out) (Kd.R_base ho46) hb); have n6_ := Aside0.mk (Kd.R_lower ho46 (below_size (by repeat (first | (with_reducible first | exact HB.out | apply below_alloc | apply pw_below_drewN | apply below_drew1) | exact HB.out)))); have n7_ := Aside0.mk (below_step (by repeat (first | (with_reducible first | exact HB.out | apply below_alloc | apply pw_below_drewN | apply below_drew1) | exact HB.out)) hb); clear HO120; clear HO126; clear HO132; clear HO138; clear HO144; clear HO150; clear HB; have HO120 := n0_; have HO126 := n1_; have HO132 := n2_; have HO138 := n3_; have HO144 := n4_; have HO150 := n5_; have HO153 := n6_; have HB := n7_; clear n0_ n1_ n2_ n3_ n4_ n5_ n6_ n7_; clear hb ho46; obtain ⟨Ao47, co47, eo47⟩ := Kd.V_slice HO150.out; subst eo47; obtain ⟨Ao48, co48, eo48⟩ := Kd.R_slice HO153.out; subst eo48) | (go_at_call 12; (with_reducible refine (varint_Put.calls k _ _ t148 _ _ y151 t154 _ ?side1 ?side2 ?side3 ?side4 A16.out).mono ?_); (case side1 => repeat (first | exact (Kd.V_reads' HO150.out).2.2 | (with_reducible refine Kd.C_alloc ?_ _) | (with_reducible refine Kd.C_drewN ?_ _) | (with_reducible refine Kd.C_drew ?_))); (case side2 => exact (Kd.V_reads' HO150.out).2.1); (case side3 => repeat (first | exact (Kd.R_reads' HO153.out).2.2 | (with_reducible refine Kd.C_alloc ?_ _) | (with_reducible refine Kd.C_drewN ?_ _) | (with_reducible refine Kd.C_drew ?_))); (case side4 => exact (Kd.R_reads' HO153.out).2.1); rintro e w49 ⟨v155, rfl, ho0, hb⟩; have n0_ := Aside0.mk (Kd.R_below (by (with_reducible repeat (first | apply Kd.R_alloc | apply Kd.R_drewN | apply Kd.R_drew)); exact HO120.out) hb); have n1_ := Aside0.mk (Kd.R_below (by (with_reducible repeat (first | apply Kd.R_alloc | apply Kd.R_drewN | apply Kd.R_drew)); exact HO126.out) hb); have n2_ := Aside0.mk (Kd.R_below (by (with_reducible repeat (first | apply Kd.R_alloc | apply Kd.R_drewN | apply Kd.R_drew)); exact HO132.out) hb); have n3_ := Aside0.mk (Kd.R_below (by (with_reducible repeat (first | apply Kd.R_alloc | apply Kd.R_drewN | apply Kd.R_drew)); exact HO138.out) hb); have n4_ := Aside0.mk (Kd.R_below (by (with_reducible repeat (first | apply Kd.R_alloc | apply Kd.R_drewN | apply Kd.R_drew)); exact HO144.out) hb); have n5_ := Aside0.mk (Kd.V_below (by (with_reducible repeat (first | apply Kd.V_alloc | apply Kd.V_drewN | apply Kd.V_drew)); exact HO150.out) hb); have n6_ := Aside0.mk (Kd.R_below (by (with_reducible repeat (first | apply Kd.R_alloc | apply Kd.R_drewN | apply Kd.R_drew)); exact HO153.out) hb); have n7_ := Aside0.mk (Kd.V_lower (Kd.V_mono (ok' := fun k_ => some k_ ≠ (.slice Ao31 y118.length co31 : Value).ownBlock ∧ some k_ ≠ (.slice Ao34 y124.length co34 : Value).ownBlock ∧ some k_ ≠ (.slice Ao37 y130.length co37 : Value).ownBlock ∧ some k_ ≠ (.slice Ao40 y136.length co40 : Value).ownBlock ∧ some k_ ≠ (.slice Ao43 y142.length co43 : Value).ownBlock ∧ some k_ ≠ (.slice Ao48 y151.length co48 : Value).ownBlock) ho0 (fun k_ hk_ => ⟨(Kd.fresh' (Kd.R_lt (by (with_reducible repeat (first | apply Kd.R_alloc | apply Kd.R_drewN | apply Kd.R_drew)); exact HO120.out)) k_ hk_), (Kd.fresh' (Kd.R_lt (by (with_reducible repeat (first | apply Kd.R_alloc | apply Kd.R_drewN | apply Kd.R_drew)); exact HO126.out)) k_ hk_), (Kd.fresh' (Kd.R_lt (by (with_reducible repeat (first | apply Kd.R_alloc | apply Kd.R_drewN | apply Kd.R_drew)); exact HO132.out)) k_ hk_), (Kd.fresh' (Kd.R_lt (by (with_reducible repeat (first | apply Kd.R_alloc | apply Kd.R_drewN | apply Kd.R_drew)); exact HO138.out)) k_ hk_), (Kd.fresh' (Kd.R_lt (by (with_reducible repeat (first | apply Kd.R_alloc | apply Kd.R_drewN | apply Kd.R_drew)); exact HO144.out)) k_ hk_), (Kd.fresh' (Kd.R_lt (by (with_reducible repeat (first | apply Kd.R_alloc | apply Kd.R_drewN | apply Kd.R_drew)); exact HO153.out)) k_ hk_)⟩)) (below_size (by repeat (first | (with_reducible first | exact HB.out | apply below_alloc | apply pw_below_drewN | apply below_drew1) | exact HB.out)))); have n8_ := Aside0.mk (below_step (by repeat (first | (with_reducible first | exact HB.out | apply below_alloc | apply pw_below_drewN | apply below_drew1) | exact HB.out)) hb); clear HO120; clear HO126; clear HO132; clear HO138; clear HO144; clear HO150; clear HO153; clear HB; have HO120 := n0_; have HO126 := n1_; have HO132 := n2_; have HO138 := n3_; have HO144 := n4_; have HO150 := n5_; have HO153 := n6_; have HO156 := n7_; have HB := n8_; clear n0_ n1_ n2_ n3_ n4_ n5_ n6_ n7_ n8_; (try clear hb); (try clear hb2); (try clear hk); (try clear hi); (try clear ho0); have hcv50 := v_string (P := Try.prog) Try.underlying22 Try.underlying5 Try.underlying9 HO156.out) | (go_at_call 16; (with_reducible refine (varint_Size.calls k 127 t157 _ A18.out).mono ?_); rintro e w' ⟨rfl, ⟨nd, rfl⟩⟩) | (go_at_call 16; (with_reducible refine (varint_Size.calls k 128 t158 _ A20.out).mono ?_); rintro e w' ⟨rfl, ⟨nd, rfl⟩⟩) | (go_at_call 14; (with_reducible refine (varint_Zig.calls (-1) t159 _ A22.out).mono ?_); rintro e w' ⟨rfl, ⟨nd, rfl⟩⟩) | (go_at_call 14; (with_reducible refine (varint_Zig.calls 1 t160 _ A24.out).mono ?_); rintro e w' ⟨rfl, ⟨nd, rfl⟩⟩) | (go_at_call 18; (with_reducible refine (varint_Zag.calls 3 t161 _ A26.out).mono ?_); rintro e w' ⟨rfl, ⟨nd, rfl⟩⟩) | (go_at_call 18; (with_reducible refine (varint_Zag.calls 18446744073709551615 t162 _ A28.out).mono ?_); rintro e w' ⟨rfl, ⟨nd, rfl⟩⟩))
                                go_ret
                                exact ⟨by first | rfl | (simp [errW_none, errW_some] <;> rfl) | (simp [*, errW_none, errW_some] <;> rfl), by repeat (first | (with_reducible first | exact HB.out | apply below_alloc | apply pw_below_drewN | apply below_drew1) | exact HB.out)⟩
                              · rw [if_neg c27] at H
                                exact absurd H (by simp)
                            · rw [if_neg c25] at H
                              exact absurd H (by simp)
                          · rw [if_neg c23] at H
                            exact absurd H (by simp)
                        · rw [if_neg c21] at H
                          exact absurd H (by simp)
                      · rw [if_neg c19] at H
                        exact absurd H (by simp)
                    · rw [if_neg c17] at H
                      exact absurd H (by simp)
                  · rw [if_neg c14] at H
                    exact absurd H (by simp)
                · rw [if_neg c13] at H
                  exact absurd H (by simp)
              · rw [if_neg c12] at H
                exact absurd H (by simp)
            · rw [if_neg c11] at H
              exact absurd H (by simp)
          · rw [if_neg c10] at H
            exact absurd H (by simp)
        · rw [if_neg c9] at H
          exact absurd H (by simp)
      · rw [if_neg c8] at H
        exact absurd H (by simp)
    · rw [if_neg c7] at H
      exact absurd H (by simp)
  · rw [if_neg c6] at H
    exact absurd H (by simp)

/-! ### deckleref03_Take: function 11 -/
mutual
def deckleref03_Take.l0 : Nat → List Int → Int → Int → Int → Option (Int × Int × Int)
  | 0, _, _, _, _ => none
  | k + 1, x0, x5, x6, x7 => if x7 < 10 then (if x7 ≥ (x0.length : Int) then (some (0, 0, 2)) else (if x7 = 9 then (if 0 ≤ x7 then (if x7 < (x0.length : Int) then (if (rd x0 x7) > 1 then (deckleref03_Take.j1 k x0 x5 x6 x7 true) else (if x7 > 0 then (deckleref03_Take.j1 k x0 x5 x6 x7 ((rd x0 x7) == 0)) else (deckleref03_Take.j1 k x0 x5 x6 x7 false))) else (none)) else (none)) else (if x7 > 0 then (if 0 ≤ x7 then (if x7 < (x0.length : Int) then (deckleref03_Take.j1 k x0 x5 x6 x7 ((rd x0 x7) == 0)) else (none)) else (none)) else (deckleref03_Take.j1 k x0 x5 x6 x7 false)))) else (some (0, 0, 3))
def deckleref03_Take.j1 : Nat → List Int → Int → Int → Int → Bool → Option (Int × Int × Int)
  | 0, _, _, _, _, _ => none
  | k + 1, x0, x5, x6, x7, x35 => if x35 = true then (some (0, 0, 3)) else (if 0 ≤ x7 then (if x7 < (x0.length : Int) then (if (rd x0 x7) < 128 then (some (IntKind.u64.wrap (x5 + (IntKind.u64.wrap ((IntKind.u64.wrap (Int.tmod (rd x0 x7) 128)) * x6))), wrap64 (x7 + 1), 0)) else (deckleref03_Take.l0 k x0 (IntKind.u64.wrap (x5 + (IntKind.u64.wrap ((IntKind.u64.wrap (Int.tmod (rd x0 x7) 128)) * x6)))) (IntKind.u64.wrap (x6 * 128)) (wrap64 (x7 + 1)))) else (none)) else (none))
end
def deckleref03_Take.f (k : Nat) (l0 : List Int) : Option (Int × Int × Int) := deckleref03_Take.l0 k l0 0 1 0
theorem deckleref03_Take.mono_l : ∀ k, (∀ y0 y1 y2 y3, LeO (deckleref03_Take.l0 k y0 y1 y2 y3) (deckleref03_Take.l0 (k + 1) y0 y1 y2 y3)) ∧ (∀ y0 y1 y2 y3 y4, LeO (deckleref03_Take.j1 k y0 y1 y2 y3 y4) (deckleref03_Take.j1 (k + 1) y0 y1 y2 y3 y4))
  | 0 => ⟨fun _ _ _ _ r h => by simp [deckleref03_Take.l0] at h, fun _ _ _ _ _ r h => by simp [deckleref03_Take.j1] at h⟩
  | k + 1 => by
    obtain ⟨ih0, ih1⟩ := deckleref03_Take.mono_l k
    refine ⟨?_, ?_⟩
    · intro y0 y1 y2 y3
      unfold deckleref03_Take.l0
      repeat' first
      | (with_reducible exact ih0 _ _ _ _)
      | (with_reducible exact ih1 _ _ _ _ _)
      | (with_reducible exact LeO.refl _)
      | (with_reducible exact LeO.none _)
      | (with_reducible refine LeO.ite ?_ ?_)
      | (with_reducible refine LeO.bind ?_ (fun _ => ?_))
      | exact ih0 _ _ _ _
      | exact ih1 _ _ _ _ _
      | exact LeO.none _
      | refine LeO.ite ?_ ?_
      | refine LeO.bind ?_ (fun _ => ?_)
    · intro y0 y1 y2 y3 y4
      unfold deckleref03_Take.j1
      repeat' first
      | (with_reducible exact ih0 _ _ _ _)
      | (with_reducible exact ih1 _ _ _ _ _)
      | (with_reducible exact LeO.refl _)
      | (with_reducible exact LeO.none _)
      | (with_reducible refine LeO.ite ?_ ?_)
      | (with_reducible refine LeO.bind ?_ (fun _ => ?_))
      | exact ih0 _ _ _ _
      | exact ih1 _ _ _ _ _
      | exact LeO.none _
      | refine LeO.ite ?_ ?_
      | refine LeO.bind ?_ (fun _ => ?_)
theorem deckleref03_Take.mono : ∀ a0 k, LeO (deckleref03_Take.f k a0) (deckleref03_Take.f (k + 1) a0) := by
  intro a0 k
  obtain ⟨ih0, ih1⟩ := deckleref03_Take.mono_l k
  unfold deckleref03_Take.f
  repeat' first
      | (with_reducible exact ih0 _ _ _ _)
      | (with_reducible exact ih1 _ _ _ _ _)
      | (with_reducible exact LeO.refl _)
      | (with_reducible exact LeO.none _)
      | (with_reducible refine LeO.ite ?_ ?_)
      | (with_reducible refine LeO.bind ?_ (fun _ => ?_))
      | exact ih0 _ _ _ _
      | exact ih1 _ _ _ _ _
      | exact LeO.none _
      | refine LeO.ite ?_ ?_
      | refine LeO.bind ?_ (fun _ => ?_)
set_option maxHeartbeats 8000000 in
set_option maxRecDepth 100000 in
theorem deckleref03_Take.calls (k : Nat) (A0 : Option Addr) (c0 : Nat) (l0 : List Int) (r1 : Int) (r2 : Int) (r3 : Int) (w : World) (hr0 : Kd.C (Kd.int .u8) w A0 l0.length l0) (hc0 : l0.length ≤ c0) (h : deckleref03_Take.f k l0 = some (r1, r2, r3)) :
    Calls Try.prog 11 #[.slice A0 l0.length c0] w fun e w' => e = .returned (.tuple #[.int .u64 r1, .int .i64 r2, .int .i64 r3]) ∧ Drawn0 w w' := by
  have HR0 := Aside0.mk hr0
  have HC0 := Aside0.mk hc0
  clear hr0 hc0
  have H : (deckleref03_Take.l0 k l0 0 1 0) = some (r1, r2, r3) := h
  clear h
  have H' := Aside0.mk H
  clear H
  go_enter Try.func11, Try.ntmps11
  go_wp2
  go_loopg [5, 6, 7] k (fun kq v5 v6 v7 w' => ∃ (x5_1 : Int) (x6_1 : Int) (x7_1 : Int), v5 = .int .u64 x5_1 ∧ v6 = .int .u64 x6_1 ∧ v7 = .int .i64 x7_1 ∧ Aside0 (deckleref03_Take.l0 kq l0 x5_1 x6_1 x7_1 = some (r1, r2, r3)) ∧ Aside0 (kq ≤ k) ∧ Drawn0 w w')
  case atStart => exact ⟨(0), (1), (0), (by first | rfl | (simp; done) | (simp [*]; done)), (by first | rfl | (simp; done) | (simp [*]; done)), (by first | rfl | (simp; done) | (simp [*]; done)), H', ⟨Nat.le_refl _⟩, by repeat (first | exact Drawn0.refl _ | apply Drawn0.step)⟩
  case round =>
    clear H'
    try clear c1
    obtain ⟨x5_1, x6_1, x7_1, rfl, rfl, rfl, HA, HK1, ⟨m1, rfl⟩⟩ := hrel
    cases gk with
    | zero => exact absurd HA.out (by simp [deckleref03_Take.l0])
    | succ k1 =>
      have H := HA.out
      clear HA
      simp only [deckleref03_Take.l0] at H
      by_cases c2 : x7_1 < 10
      · rw [if_pos c2] at H
        have c2b0 : decide (x7_1 < 10) = true := decide_eq_true c2
        clear c2
        by_cases c3 : x7_1 ≥ (l0.length : Int)
        · rw [if_pos c3] at H
          have c3b0 : decide ((l0.length : Int) ≤ x7_1) = true := decide_eq_true c3
          clear c3
          simp only [Option.some.injEq, Prod.mk.injEq] at H
          obtain ⟨rfl, rfl, rfl⟩ := H
          go_wp2
          go_ret3
          exact ⟨by first | rfl | (simp; done) | (simp [*]; done), by repeat (first | exact Drawn0.refl _ | apply Drawn0.step)⟩
        · rw [if_neg c3] at H
          have c3b0 : decide ((l0.length : Int) ≤ x7_1) = false := decide_eq_false c3
          clear c3
          have HC4 := Aside0.mk H
          clear H
          go_upto_region 8 with (fail)
          go_cut [35] (fun v35 wc => ∃ (kq : Nat) (x35_3 : Bool), v35 = .bool x35_3 ∧ Aside0 (deckleref03_Take.j1 kq l0 x5_1 x6_1 x7_1 x35_3 = some (r1, r2, r3)) ∧ Aside0 (kq ≤ k1) ∧ Drawn0 w wc)
          case first =>
            have H := HC4.out
            clear HC4
            by_cases c5 : x7_1 = 9
            · rw [if_pos c5] at H
              have c5b0 : (x7_1 == 9) = true := beq_iff_eq.mpr c5
              have c5b1 : (x7_1 != 9) = false := bne_eq_false_iff_eq.mpr c5
              clear c5
              (first | rw [c5b0] | (simp only [i64_w, i32_w]; rw [c5b0]) | skip)
              by_cases c6 : 0 ≤ x7_1
              · rw [if_pos c6] at H
                have c6b0 : decide (0 ≤ x7_1) = true := decide_eq_true c6
                clear c6
                by_cases c7 : x7_1 < (l0.length : Int)
                · rw [if_pos c7] at H
                  have c7b0 : decide (x7_1 < (l0.length : Int)) = true := decide_eq_true c7
                  clear c7
                  by_cases c8 : (rd l0 x7_1) > 1
                  · rw [if_pos c8] at H
                    have c8b0 : decide (1 < (rd l0 x7_1)) = true := decide_eq_true c8
                    clear c8
                    have H' := Aside0.mk H
                    clear H
                    have p163 : 0 ≤ (x7_1 : Int) := of_decide_eq_true (by first | (with_reducible assumption) | assumption)
                    have q163 : x7_1 < (l0.length : Int) := of_decide_eq_true (by first | (with_reducible assumption) | assumption)
                    obtain ⟨ad163, e163, hx163_0⟩ := Kd.at_int HR0.out x7_1 p163 q163
                    cases e163
                    replace p163 := eq_true p163
                    replace q163 := eq_true q163
                    go_wp2
                    go_meet
                    case rel => exact ⟨_, (true), (by first | rfl | (simp; done) | (simp [*]; done)), H', ⟨by have := HK1.out; first | omega | exact Nat.le_refl _⟩, by repeat (first | exact Drawn0.refl _ | apply Drawn0.step)⟩
                  · rw [if_neg c8] at H
                    have c8b0 : decide (1 < (rd l0 x7_1)) = false := decide_eq_false c8
                    clear c8
                    by_cases c9 : x7_1 > 0
                    · rw [if_pos c9] at H
                      have c9b0 : decide (0 < x7_1) = true := decide_eq_true c9
                      clear c9
                      have H' := Aside0.mk H
                      clear H
                      have p163 : 0 ≤ (x7_1 : Int) := of_decide_eq_true (by first | (with_reducible assumption) | assumption)
                      have q163 : x7_1 < (l0.length : Int) := of_decide_eq_true (by first | (with_reducible assumption) | assumption)
                      obtain ⟨ad163, e163, hx163_0⟩ := Kd.at_int HR0.out x7_1 p163 q163
                      cases e163
                      replace p163 := eq_true p163
                      replace q163 := eq_true q163
                      have p164 : 0 ≤ (x7_1 : Int) := of_decide_eq_true (by first | (with_reducible assumption) | assumption)
                      have q164 : x7_1 < (l0.length : Int) := of_decide_eq_true (by first | (with_reducible assumption) | assumption)
                      obtain ⟨ad164, e164, hx164_0⟩ := Kd.at_int HR0.out x7_1 p164 q164
                      obtain rfl : ad163 = ad164 := (by injection e164)
                      replace p164 := eq_true p164
                      replace q164 := eq_true q164
                      go_wp2
                      go_meet
                      case rel => exact ⟨_, (((rd l0 x7_1) == 0)), (by first | rfl | (simp; done) | (simp [*]; done)), H', ⟨by have := HK1.out; first | omega | exact Nat.le_refl _⟩, by repeat (first | exact Drawn0.refl _ | apply Drawn0.step)⟩
                    · rw [if_neg c9] at H
                      have c9b0 : decide (0 < x7_1) = false := decide_eq_false c9
                      clear c9
                      have H' := Aside0.mk H
                      clear H
                      have p163 : 0 ≤ (x7_1 : Int) := of_decide_eq_true (by first | (with_reducible assumption) | assumption)
                      have q163 : x7_1 < (l0.length : Int) := of_decide_eq_true (by first | (with_reducible assumption) | assumption)
                      obtain ⟨ad163, e163, hx163_0⟩ := Kd.at_int HR0.out x7_1 p163 q163
                      cases e163
                      replace p163 := eq_true p163
                      replace q163 := eq_true q163
                      go_wp2
                      go_meet
                      case rel => exact ⟨_, (false), (by first | rfl | (simp; done) | (simp [*]; done)), H', ⟨by have := HK1.out; first | omega | exact Nat.le_refl _⟩, by repeat (first | exact Drawn0.refl _ | apply Drawn0.step)⟩
                · rw [if_neg c7] at H
                  exact absurd H (by simp)
              · rw [if_neg c6] at H
                exact absurd H (by simp)
            · rw [if_neg c5] at H
              have c5b0 : (x7_1 == 9) = false := beq_eq_false_iff_ne.mpr c5
              have c5b1 : (x7_1 != 9) = true := bne_iff_ne.mpr c5
              (first | rw [c5b0] | (simp only [i64_w, i32_w]; rw [c5b0]) | skip)
              by_cases c10 : x7_1 > 0
              · rw [if_pos c10] at H
                have c10b0 : decide (0 < x7_1) = true := decide_eq_true c10
                clear c10
                by_cases c11 : 0 ≤ x7_1
                · rw [if_pos c11] at H
                  have c11b0 : decide (0 ≤ x7_1) = true := decide_eq_true c11
                  clear c11
                  by_cases c12 : x7_1 < (l0.length : Int)
                  · rw [if_pos c12] at H
                    have c12b0 : decide (x7_1 < (l0.length : Int)) = true := decide_eq_true c12
                    clear c12
                    have H' := Aside0.mk H
                    clear H
                    have p165 : 0 ≤ (x7_1 : Int) := of_decide_eq_true (by first | (with_reducible assumption) | assumption)
                    have q165 : x7_1 < (l0.length : Int) := of_decide_eq_true (by first | (with_reducible assumption) | assumption)
                    obtain ⟨ad165, e165, hx165_0⟩ := Kd.at_int HR0.out x7_1 p165 q165
                    cases e165
                    replace p165 := eq_true p165
                    replace q165 := eq_true q165
                    go_wp2
                    go_meet
                    case rel => exact ⟨_, (((rd l0 x7_1) == 0)), (by first | rfl | (simp; done) | (simp [*]; done)), H', ⟨by have := HK1.out; first | omega | exact Nat.le_refl _⟩, by repeat (first | exact Drawn0.refl _ | apply Drawn0.step)⟩
                  · rw [if_neg c12] at H
                    exact absurd H (by simp)
                · rw [if_neg c11] at H
                  exact absurd H (by simp)
              · rw [if_neg c10] at H
                have c10b0 : decide (0 < x7_1) = false := decide_eq_false c10
                clear c10
                have H' := Aside0.mk H
                clear H
                go_wp2
                go_meet
                case rel => exact ⟨_, (false), (by first | rfl | (simp; done) | (simp [*]; done)), H', ⟨by have := HK1.out; first | omega | exact Nat.le_refl _⟩, by repeat (first | exact Drawn0.refl _ | apply Drawn0.step)⟩
          case rest =>
            clear HC4
            try clear c1
            try clear p1
            try clear q1
            try clear hx1
            try clear c2
            try clear c2b0
            try clear p2
            try clear c3
            try clear c3b0
            try clear c5
            try clear c5b0
            try clear c5b1
            try clear c6
            try clear c6b0
            try clear c7
            try clear c7b0
            try clear c8
            try clear c8b0
            try clear c9
            try clear c9b0
            try clear c10
            try clear c10b0
            try clear c11
            try clear c11b0
            try clear c12
            try clear c12b0
            try clear hx163_0
            try clear hx164_0
            try clear hx165_0
            try clear p163
            try clear p164
            try clear p165
            try clear q163
            try clear q164
            try clear q165
            obtain ⟨kq, x35_3, rfl, HA, HJ3, ⟨mc3, rfl⟩⟩ := hcut
            cases kq with
            | zero => exact absurd HA.out (by simp [deckleref03_Take.j1])
            | succ kj3 =>
              have H := HA.out
              clear HA
              simp only [deckleref03_Take.j1] at H
              by_cases c13 : x35_3 = true
              · subst c13
                have H1 : (some (0, 0, 3)) = some (r1, r2, r3) := by rw [if_pos rfl] at H; exact H
                clear H
                have H := H1
                clear H1
                simp only [Option.some.injEq, Prod.mk.injEq] at H
                obtain ⟨rfl, rfl, rfl⟩ := H
                go_wp2
                go_ret3
                exact ⟨by first | rfl | (simp; done) | (simp [*]; done), by repeat (first | exact Drawn0.refl _ | apply Drawn0.step)⟩
              · replace c13 := Bool.eq_false_iff.mpr c13
                subst c13
                have H1 : (if 0 ≤ x7_1 then (if x7_1 < (l0.length : Int) then (if (rd l0 x7_1) < 128 then (some (IntKind.u64.wrap (x5_1 + (IntKind.u64.wrap ((IntKind.u64.wrap (Int.tmod (rd l0 x7_1) 128)) * x6_1))), wrap64 (x7_1 + 1), 0)) else (deckleref03_Take.l0 kj3 l0 (IntKind.u64.wrap (x5_1 + (IntKind.u64.wrap ((IntKind.u64.wrap (Int.tmod (rd l0 x7_1) 128)) * x6_1)))) (IntKind.u64.wrap (x6_1 * 128)) (wrap64 (x7_1 + 1)))) else (none)) else (none)) = some (r1, r2, r3) := by rw [if_neg (show ¬ (false = true) by decide)] at H; exact H
                clear H
                have H := H1
                clear H1
                by_cases c14 : 0 ≤ x7_1
                · rw [if_pos c14] at H
                  have c14b0 : decide (0 ≤ x7_1) = true := decide_eq_true c14
                  clear c14
                  by_cases c15 : x7_1 < (l0.length : Int)
                  · rw [if_pos c15] at H
                    have c15b0 : decide (x7_1 < (l0.length : Int)) = true := decide_eq_true c15
                    clear c15
                    by_cases c16 : (rd l0 x7_1) < 128
                    · rw [if_pos c16] at H
                      have c16b0 : decide ((rd l0 x7_1) < 128) = true := decide_eq_true c16
                      clear c16
                      simp only [Option.some.injEq, Prod.mk.injEq] at H
                      obtain ⟨rfl, rfl, rfl⟩ := H
                      have p166 : 0 ≤ (x7_1 : Int) := of_decide_eq_true (by first | (with_reducible assumption) | assumption)
                      have q166 : x7_1 < (l0.length : Int) := of_decide_eq_true (by first | (with_reducible assumption) | assumption)
                      obtain ⟨ad166, e166, hx166_0⟩ := Kd.at_int HR0.out x7_1 p166 q166
                      cases e166
                      replace p166 := eq_true p166
                      replace q166 := eq_true q166
                      have p167 : 0 ≤ (x7_1 : Int) := of_decide_eq_true (by first | (with_reducible assumption) | assumption)
                      have q167 : x7_1 < (l0.length : Int) := of_decide_eq_true (by first | (with_reducible assumption) | assumption)
                      obtain ⟨ad167, e167, hx167_0⟩ := Kd.at_int HR0.out x7_1 p167 q167
                      obtain rfl : ad166 = ad167 := (by injection e167)
                      replace p167 := eq_true p167
                      replace q167 := eq_true q167
                      go_wp2
                      go_ret3
                      exact ⟨by first | rfl | (simp; done) | (simp [*]; done), by repeat (first | exact Drawn0.refl _ | apply Drawn0.step)⟩
                    · rw [if_neg c16] at H
                      have c16b0 : decide ((rd l0 x7_1) < 128) = false := decide_eq_false c16
                      clear c16
                      have H' := Aside0.mk H
                      clear H
                      have p166 : 0 ≤ (x7_1 : Int) := of_decide_eq_true (by first | (with_reducible assumption) | assumption)
                      have q166 : x7_1 < (l0.length : Int) := of_decide_eq_true (by first | (with_reducible assumption) | assumption)
                      obtain ⟨ad166, e166, hx166_0⟩ := Kd.at_int HR0.out x7_1 p166 q166
                      cases e166
                      replace p166 := eq_true p166
                      replace q166 := eq_true q166
                      have p167 : 0 ≤ (x7_1 : Int) := of_decide_eq_true (by first | (with_reducible assumption) | assumption)
                      have q167 : x7_1 < (l0.length : Int) := of_decide_eq_true (by first | (with_reducible assumption) | assumption)
                      obtain ⟨ad167, e167, hx167_0⟩ := Kd.at_int HR0.out x7_1 p167 q167
                      obtain rfl : ad166 = ad167 := (by injection e167)
                      replace p167 := eq_true p167
                      replace q167 := eq_true q167
                      go_wp2
                      go_roundg kj3
                      case measure => have := HK1.out; have := HJ3.out; omega
                      case rel => exact ⟨(IntKind.u64.wrap (x5_1 + (IntKind.u64.wrap ((IntKind.u64.wrap (Int.tmod (rd l0 x7_1) 128)) * x6_1)))), (IntKind.u64.wrap (x6_1 * 128)), (wrap64 (x7_1 + 1)), (by first | rfl | (simp; done) | (simp [*]; done)), (by first | rfl | (simp; done) | (simp [*]; done)), (by first | rfl | (simp; done) | (simp [*]; done)), H', ⟨by have := HK1.out; have := HJ3.out; omega⟩, by repeat (first | exact Drawn0.refl _ | apply Drawn0.step)⟩
                  · rw [if_neg c15] at H
                    exact absurd H (by simp)
                · rw [if_neg c14] at H
                  exact absurd H (by simp)
      · rw [if_neg c2] at H
        have c2b0 : decide (x7_1 < 10) = false := decide_eq_false c2
        clear c2
        simp only [Option.some.injEq, Prod.mk.injEq] at H
        obtain ⟨rfl, rfl, rfl⟩ := H
        go_wp2
        go_ret3
        exact ⟨by first | rfl | (simp; done) | (simp [*]; done), by repeat (first | exact Drawn0.refl _ | apply Drawn0.step)⟩

/-! ### deckleref03_one: function 22 -/
def deckleref03_one.f : Nat → Int → Option (List Int)
  | 0, _ => none
  | k + 1, a0 => if a0 < 128 then (some (([(a0) % 256] : List Int))) else ((some (([(IntKind.u64.wrap ((Int.tmod a0 128) + 128)) % 256] : List Int) : List Int)).bind fun y171 => ((deckleref03_one.f k (IntKind.u64.wrap (Int.tdiv a0 128))).bind fun t174 => (if y171.length + t174.length < 140737488355328 then (some (y171 ++ t174)) else (none))))
theorem deckleref03_one.mono_l : ∀ k, (∀ y0, LeO (deckleref03_one.f k y0) (deckleref03_one.f (k + 1) y0))
  | 0 => fun _ r h => by simp [deckleref03_one.f] at h
  | k + 1 => by
    have ih0 := deckleref03_one.mono_l k
    · intro y0
      unfold deckleref03_one.f
      repeat' first
      | (with_reducible exact ih0 _)
      | (with_reducible exact LeO.refl _)
      | (with_reducible exact LeO.none _)
      | (with_reducible refine LeO.ite ?_ ?_)
      | (with_reducible refine LeO.bind ?_ (fun _ => ?_))
      | exact ih0 _
      | exact LeO.none _
      | refine LeO.ite ?_ ?_
      | refine LeO.bind ?_ (fun _ => ?_)
theorem deckleref03_one.mono : ∀ a0 k, LeO (deckleref03_one.f k a0) (deckleref03_one.f (k + 1) a0) := by
  intro a0 k
  have ih0 := deckleref03_one.mono_l k
  exact ih0 a0
set_option maxHeartbeats 8000000 in
set_option maxRecDepth 100000 in
theorem deckleref03_one.calls (k : Nat) : ∀ (a0 : Int) (r : List Int) (w : World) (h : deckleref03_one.f k a0 = some r),
    Calls Try.prog 22 #[.int .u64 a0] w fun e w' => ∃ v0_ : Value, e = .returned (v0_) ∧ Kd.R (Kd.int .u8) 5 w' w.heap.size (fun _ => True) v0_ r ∧ Below w.heap.size w w' := by
  induction k using Nat.strongRecOn with
  | _ k ih =>
  intro a0 r w h
  cases k with
  | zero => exact absurd h (by simp [deckleref03_one.f])
  | succ k =>
  simp only [deckleref03_one.f] at h
  have HB := Aside0.mk (Below.refl w.heap.size w)
  have H : (if a0 < 128 then (some (([(a0) % 256] : List Int))) else ((some (([(IntKind.u64.wrap ((Int.tmod a0 128) + 128)) % 256] : List Int) : List Int)).bind fun y171 => ((deckleref03_one.f k (IntKind.u64.wrap (Int.tdiv a0 128))).bind fun t174 => (if y171.length + t174.length < 140737488355328 then (some (y171 ++ t174)) else (none))))) = some r := h
  clear h
  by_cases c2 : a0 < 128
  · rw [if_pos c2] at H
    have c2b0 : decide (a0 < 128) = true := decide_eq_true c2
    clear c2
    obtain ⟨y168, hy168⟩ : ∃ y_ : List Int, y_ = (([(a0) % 256] : List Int)) := ⟨_, rfl⟩
    replace H : (some y168) = some r := by first | (rw [hy168]; with_reducible exact H) | (have H2_ := (Option.bind_some _ _).symm.trans H; rw [hy168]; with_reducible exact H2_) | (have H2_ := (Option.bind_some _ _).symm.trans H; with_reducible exact H2_) | with_reducible exact H | (rw [hy168]; exact H) | exact H
    have Ny168 := Aside0.mk hy168
    clear hy168
    obtain rfl := Option.some.inj H
    go_enter Try.func22, Try.ntmps22
    go_wp2_with (first | ((with_reducible refine gate_dst (N := 7) rfl ?_); refine Kd.R_lit (Kd.int .u8) _ 5 ?hg (N := 7) ?hd (xs := ([(a0) % 256] : List Int)) (inner := [.int .u8 ((a0) % 256)]) (ok := fun _ => True) (okp := fun _ => True) ?hr ?hp (fun _ hk => hk) trivial (Below.refl _ _) (Nat.le_refl _) (by simp) ?_; (case hd => rfl); (case hg => rfl); (case hr => first | (go_simp; done) | (go_simp; rfl)); (case hp => exact (Reps.one (show Kd.M (Kd.int .u8) _ _ _ ((a0) % 256) [.int .u8 ((a0) % 256)] from rfl) (Reps.none _ _))); intro v169 w3 ho4 hb hg_ hnew_; clear hg_ hnew_; (first | rw [← Ny168.out] at ho4 | (simp only [Int.reduceToNat] at ho4; rw [← Ny168.out] at ho4)); have n0_ := Aside0.mk (Kd.R_lower ho4 (below_size (by repeat (first | (with_reducible first | exact HB.out | apply below_alloc | apply pw_below_drewN | apply below_drew1) | exact HB.out)))); have n1_ := Aside0.mk (below_step (by repeat (first | (with_reducible first | exact HB.out | apply below_alloc | apply pw_below_drewN | apply below_drew1) | exact HB.out)) hb); clear HB; have HO170 := n0_; have HB := n1_; clear n0_ n1_; clear hb ho4))
    go_ret
    exact ⟨_, by first | rfl | (simp [errW_none, errW_some] <;> rfl) | (simp [*, errW_none, errW_some] <;> rfl), by (with_reducible repeat (first | apply Kd.R_alloc | apply Kd.R_drewN | apply Kd.R_drew)); exact HO170.out, by repeat (first | (with_reducible first | exact HB.out | apply below_alloc | apply pw_below_drewN | apply below_drew1) | exact HB.out)⟩
  · rw [if_neg c2] at H
    have c2b0 : decide (a0 < 128) = false := decide_eq_false c2
    clear c2
    obtain ⟨y171, hy171⟩ : ∃ y_ : List Int, y_ = (([(IntKind.u64.wrap ((Int.tmod a0 128) + 128)) % 256] : List Int)) := ⟨_, rfl⟩
    replace H : ((deckleref03_one.f k (IntKind.u64.wrap (Int.tdiv a0 128))).bind fun t174 => (if y171.length + t174.length < 140737488355328 then (some (y171 ++ t174)) else (none))) = some r := by first | (rw [hy171]; with_reducible exact H) | (have H2_ := (Option.bind_some _ _).symm.trans H; rw [hy171]; with_reducible exact H2_) | (have H2_ := (Option.bind_some _ _).symm.trans H; with_reducible exact H2_) | with_reducible exact H | (rw [hy171]; exact H) | exact H
    have Ny171 := Aside0.mk hy171
    clear hy171
    replace H := Option.bind_eq_some_iff.mp H
    obtain ⟨t174, A50, H⟩ := H
    replace H : (if y171.length + t174.length < 140737488355328 then (some (y171 ++ t174)) else (none)) = some r := H
    have A5 := Aside0.mk A50
    clear A50
    by_cases c6 : y171.length + t174.length < 140737488355328
    · rw [if_pos c6] at H
      have LMc6 := Aside0.mk c6
      clear c6
      obtain ⟨y177, hy177⟩ : ∃ y_ : List Int, y_ = (y171 ++ t174) := ⟨_, rfl⟩
      replace H : (some y177) = some r := by first | (rw [hy177]; with_reducible exact H) | (have H2_ := (Option.bind_some _ _).symm.trans H; rw [hy177]; with_reducible exact H2_) | (have H2_ := (Option.bind_some _ _).symm.trans H; with_reducible exact H2_) | with_reducible exact H | (rw [hy177]; exact H) | exact H
      have Ny177 := Aside0.mk hy177
      clear hy177
      obtain rfl := Option.some.inj H
      go_enter Try.func22, Try.ntmps22
      go_wp2_with (first | ((with_reducible refine gate_dst (N := 12) rfl ?_); refine Kd.R_lit (Kd.int .u8) _ 5 ?hg (N := 12) ?hd (xs := ([(IntKind.u64.wrap ((Int.tmod a0 128) + 128)) % 256] : List Int)) (inner := [.int .u8 ((IntKind.u64.wrap ((Int.tmod a0 128) + 128)) % 256)]) (ok := fun _ => True) (okp := fun _ => True) ?hr ?hp (fun _ hk => hk) trivial (Below.refl _ _) (Nat.le_refl _) (by simp) ?_; (case hd => rfl); (case hg => rfl); (case hr => first | (go_simp; done) | (go_simp; rfl)); (case hp => exact (Reps.one (show Kd.M (Kd.int .u8) _ _ _ ((IntKind.u64.wrap ((Int.tmod a0 128) + 128)) % 256) [.int .u8 ((IntKind.u64.wrap ((Int.tmod a0 128) + 128)) % 256)] from rfl) (Reps.none _ _))); intro v172 w7 ho8 hb hg_ hnew_; clear hg_ hnew_; (first | rw [← Ny171.out] at ho8 | (simp only [Int.reduceToNat] at ho8; rw [← Ny171.out] at ho8)); have n0_ := Aside0.mk (Kd.R_lower ho8 (below_size (by repeat (first | (with_reducible first | exact HB.out | apply below_alloc | apply pw_below_drewN | apply below_drew1) | exact HB.out)))); have n1_ := Aside0.mk (below_step (by repeat (first | (with_reducible first | exact HB.out | apply below_alloc | apply pw_below_drewN | apply below_drew1) | exact HB.out)) hb); clear HB; have HO173 := n0_; have HB := n1_; clear n0_ n1_; clear hb ho8) | ((with_reducible refine gate_callee (f := 22) rfl ?_); refine goesL_ (some 15) rfl rfl Try.func22 (by kernel_rfl) rfl #[.int .u64 (IntKind.u64.wrap (Int.tdiv a0 128))] rfl (by (try simp only [List.map_toArray, List.map_cons, List.map_nil]); first | done | rfl | (simp only [List.length_drop, List.length_take]; rfl)) ?_; (with_reducible refine (ih k (by omega) (IntKind.u64.wrap (Int.tdiv a0 128)) t174 _ A5.out).mono ?_); rintro e w9 ⟨v175, rfl, ho0, hb⟩; refine ⟨_, rfl, ?_⟩; have n0_ := Aside0.mk (Kd.R_elder' (by (with_reducible repeat (first | apply Kd.R_alloc | apply Kd.R_drewN | apply Kd.R_drew)); exact HO173.out) (Kd.R_base ho0) hb); have n1_ := Aside0.mk (Kd.R_lower (Kd.R_new' ho0 (Kd.R_lt (by (with_reducible repeat (first | apply Kd.R_alloc | apply Kd.R_drewN | apply Kd.R_drew)); exact HO173.out))) (below_size (by repeat (first | (with_reducible first | exact HB.out | apply below_alloc | apply pw_below_drewN | apply below_drew1) | exact HB.out)))); have n2_ := Aside0.mk (below_step (by repeat (first | (with_reducible first | exact HB.out | apply below_alloc | apply pw_below_drewN | apply below_drew1) | exact HB.out)) hb); clear HO173; clear HB; have HO173 := n0_; have HO176 := n1_; have HB := n2_; clear n0_ n1_ n2_; (try clear hb); (try clear hb2); (try clear hk); (try clear hi); (try clear ho0); obtain ⟨Ao11, co11, eo11⟩ := Kd.R_slice HO176.out; subst eo11) | ((with_reducible refine gate_builtin (b := .append) (xs := #[.tmp 12, .tmp 15]) rfl ?_); at_builtin; refine Kd.R_append_rows (Kd.int .u8) (w0 := w) w.heap.size rfl (.tmp 12) (.tmp 15) 22 5 (.int .u8 0) 1 rfl Try.underlying22 info5 rfl (by decide) (by omega) v172 y171 t174 _ _ _ (fun k_ => some k_ ≠ (.slice Ao11 t174.length co11 : Value).ownBlock) (fun _ => False) rfl rfl ?aO ?aR (fun _ _ h => h) (fun _ h => h.elim) ?aF ?aB ?aS ?aL ?_; (case aR => repeat (first | exact (Kd.R_reads' HO176.out).2.2 | (with_reducible refine Kd.C_alloc ?_ _) | (with_reducible refine Kd.C_drewN ?_ _) | (with_reducible refine Kd.C_drew ?_))); (case aB => exact (by repeat (first | (with_reducible first | exact HB.out | apply below_alloc | apply pw_below_drewN | apply below_drew1) | exact HB.out))); (case aF => exact (fun k_ hk => Kd.fresh' (Kd.R_lt (by (with_reducible repeat (first | apply Kd.R_alloc | apply Kd.R_drewN | apply Kd.R_drew)); exact HO176.out)) k_ hk)); (case aO => exact (by (with_reducible repeat (first | apply Kd.R_alloc | apply Kd.R_drewN | apply Kd.R_drew)); exact Kd.R_mono HO173.out (fun _ hk => hk.2))); (case aS => exact (below_size (by repeat (first | (with_reducible first | exact HB.out | apply below_alloc | apply pw_below_drewN | apply below_drew1) | exact HB.out)))); (case aL => have := LMc6.out; omega); intro v178 w10 ho hb hg hat; rw [← Ny177.out] at ho; have n0_ := Aside0.mk (Kd.R_after (ok := (fun _ => True)) (by (with_reducible repeat (first | apply Kd.R_alloc | apply Kd.R_drewN | apply Kd.R_drew)); exact HO176.out) hg hat); have n1_ := Aside0.mk (hb); have n2_ := Aside0.mk (ho); clear HO176; clear HB; clear HO173; have HO176 := n0_; have HB := n1_; have HO179 := n2_; clear n0_ n1_ n2_; clear ho hb hg hat))
      go_ret
      exact ⟨_, by first | rfl | (simp [errW_none, errW_some] <;> rfl) | (simp [*, errW_none, errW_some] <;> rfl), by (with_reducible repeat (first | apply Kd.R_alloc | apply Kd.R_drewN | apply Kd.R_drew)); exact Kd.R_mono HO179.out (fun _ hk => trivial), by repeat (first | (with_reducible first | exact HB.out | apply below_alloc | apply pw_below_drewN | apply below_drew1) | exact HB.out)⟩
    · rw [if_neg c6] at H
      exact absurd H (by simp)

/-! ### deckleref03_Put: function 13 -/
def deckleref03_Put.l0 : Nat → List Int → List Int → Int → Option (List Int)
  | 0, _, _, _ => none
  | k + 1, x1, x5, x6 => if x6 < (x1.length : Int) then (if 0 ≤ x6 then ((deckleref03_one.f k (rd x1 x6)).bind fun t187 => (if x5.length + t187.length < 140737488355328 then (deckleref03_Put.l0 k x1 (x5 ++ t187) (wrap64 (x6 + 1))) else (none))) else (none)) else (some x5)
def deckleref03_Put.f (k : Nat) (l0 : List Int) (l1 : List Int) : Option (List Int) := (some (([] : List Int) : List Int)).bind fun y180 => (if y180.length + l0.length < 140737488355328 then (deckleref03_Put.l0 k l1 (y180 ++ l0) 0) else (none))
theorem deckleref03_Put.mono_l : ∀ k, (∀ y0 y1 y2, LeO (deckleref03_Put.l0 k y0 y1 y2) (deckleref03_Put.l0 (k + 1) y0 y1 y2))
  | 0 => fun _ _ _ r h => by simp [deckleref03_Put.l0] at h
  | k + 1 => by
    have ih0 := deckleref03_Put.mono_l k
    · intro y0 y1 y2
      unfold deckleref03_Put.l0
      repeat' first
      | (with_reducible exact ih0 _ _ _)
      | (with_reducible exact deckleref03_one.mono _ _)
      | (with_reducible exact LeO.refl _)
      | (with_reducible exact LeO.none _)
      | (with_reducible refine LeO.ite ?_ ?_)
      | (with_reducible refine LeO.bind ?_ (fun _ => ?_))
      | exact ih0 _ _ _
      | exact deckleref03_one.mono _ _
      | exact LeO.none _
      | refine LeO.ite ?_ ?_
      | refine LeO.bind ?_ (fun _ => ?_)
theorem deckleref03_Put.mono : ∀ a0 a1 k, LeO (deckleref03_Put.f k a0 a1) (deckleref03_Put.f (k + 1) a0 a1) := by
  intro a0 a1 k
  have ih0 := deckleref03_Put.mono_l k
  unfold deckleref03_Put.f
  repeat' first
      | (with_reducible exact ih0 _ _ _)
      | (with_reducible exact deckleref03_one.mono _ _)
      | (with_reducible exact LeO.refl _)
      | (with_reducible exact LeO.none _)
      | (with_reducible refine LeO.ite ?_ ?_)
      | (with_reducible refine LeO.bind ?_ (fun _ => ?_))
      | exact ih0 _ _ _
      | exact deckleref03_one.mono _ _
      | exact LeO.none _
      | refine LeO.ite ?_ ?_
      | refine LeO.bind ?_ (fun _ => ?_)
set_option maxHeartbeats 8000000 in
set_option maxRecDepth 100000 in
theorem deckleref03_Put.calls (k : Nat) (A0 : Option Addr) (c0 : Nat) (l0 : List Int) (A1 : Option Addr) (c1 : Nat) (l1 : List Int) (r : List Int) (w : World) (hr0 : Kd.C (Kd.int .u8) w A0 l0.length l0) (hc0 : l0.length ≤ c0) (hr1 : Kd.C (Kd.int .u64) w A1 l1.length l1) (hc1 : l1.length ≤ c1) (h : deckleref03_Put.f k l0 l1 = some r) :
    Calls Try.prog 13 #[.slice A0 l0.length c0, .slice A1 l1.length c1] w fun e w' => ∃ v0_ : Value, e = .returned (v0_) ∧ Kd.R (Kd.int .u8) 5 w' w.heap.size (fun _ => True) v0_ r ∧ Below w.heap.size w w' := by
  have HR0 := Aside0.mk hr0
  have HC0 := Aside0.mk hc0
  clear hr0 hc0
  have HR1 := Aside0.mk hr1
  have HC1 := Aside0.mk hc1
  clear hr1 hc1
  have HB := Aside0.mk (Below.refl w.heap.size w)
  have H : ((some (([] : List Int) : List Int)).bind fun y180 => (if y180.length + l0.length < 140737488355328 then (deckleref03_Put.l0 k l1 (y180 ++ l0) 0) else (none))) = some r := h
  clear h
  obtain ⟨y180, hy180⟩ : ∃ y_ : List Int, y_ = (([] : List Int)) := ⟨_, rfl⟩
  replace H : (if y180.length + l0.length < 140737488355328 then (deckleref03_Put.l0 k l1 (y180 ++ l0) 0) else (none)) = some r := by first | (rw [hy180]; with_reducible exact H) | (have H2_ := (Option.bind_some _ _).symm.trans H; rw [hy180]; with_reducible exact H2_) | (have H2_ := (Option.bind_some _ _).symm.trans H; with_reducible exact H2_) | with_reducible exact H | (rw [hy180]; exact H) | exact H
  have Ny180 := Aside0.mk hy180
  clear hy180
  by_cases c3 : y180.length + l0.length < 140737488355328
  · rw [if_pos c3] at H
    have LMc3 := Aside0.mk c3
    clear c3
    obtain ⟨y183, hy183⟩ : ∃ y_ : List Int, y_ = (y180 ++ l0) := ⟨_, rfl⟩
    replace H : (deckleref03_Put.l0 k l1 y183 0) = some r := by first | (rw [hy183]; with_reducible exact H) | (have H2_ := (Option.bind_some _ _).symm.trans H; rw [hy183]; with_reducible exact H2_) | (have H2_ := (Option.bind_some _ _).symm.trans H; with_reducible exact H2_) | with_reducible exact H | (rw [hy183]; exact H) | exact H
    have Ny183 := Aside0.mk hy183
    clear hy183
    have H' := Aside0.mk H
    clear H
    go_enter Try.func13, Try.ntmps13
    go_wp2_with (first | ((with_reducible refine gate_dst (N := 7) rfl ?_); refine Kd.R_lit (Kd.int .u8) _ 5 ?hg (N := 7) ?hd (xs := ([] : List Int)) (inner := []) (ok := fun _ => True) (okp := fun _ => True) ?hr ?hp (fun _ hk => hk) trivial (Below.refl _ _) (Nat.le_refl _) (by simp) ?_; (case hd => rfl); (case hg => rfl); (case hr => first | (go_simp; done) | (go_simp; rfl)); (case hp => exact (Reps.none _ _)); intro v181 w4 ho5 hb hg_ hnew_; clear hg_ hnew_; (first | rw [← Ny180.out] at ho5 | (simp only [Int.reduceToNat] at ho5; rw [← Ny180.out] at ho5)); have n0_ := Aside0.mk (Kd.R_lower ho5 (below_size (by repeat (first | (with_reducible first | exact HB.out | apply below_alloc | apply pw_below_drewN | apply below_drew1) | exact HB.out)))); have n1_ := Aside0.mk (below_step (by repeat (first | (with_reducible first | exact HB.out | apply below_alloc | apply pw_below_drewN | apply below_drew1) | exact HB.out)) hb); clear HB; have HO182 := n0_; have HB := n1_; clear n0_ n1_; clear hb ho5) | ((with_reducible refine gate_builtin (b := .append) (xs := #[.tmp 7, .tmp 8]) rfl ?_); at_builtin; refine Kd.R_append_rows (Kd.int .u8) (w0 := w) w.heap.size rfl (.tmp 7) (.tmp 8) 22 5 (.int .u8 0) 1 rfl Try.underlying22 info5 rfl (by decide) (by omega) v181 y180 l0 _ _ _ (fun _ => True) (fun _ => False) rfl rfl ?aO ?aR (fun _ _ h => h) (fun _ h => h.elim) ?aF ?aB ?aS ?aL ?_; (case aR => repeat (first | exact (Kd.C_below HR0.out HB.out) | (with_reducible refine Kd.C_alloc ?_ _) | (with_reducible refine Kd.C_drewN ?_ _) | (with_reducible refine Kd.C_drew ?_))); (case aB => exact (by repeat (first | (with_reducible first | exact HB.out | apply below_alloc | apply pw_below_drewN | apply below_drew1) | exact HB.out))); (case aF => exact (fun _ _ => trivial)); (case aO => exact (by (with_reducible repeat (first | apply Kd.R_alloc | apply Kd.R_drewN | apply Kd.R_drew)); exact HO182.out)); (case aS => exact (below_size (by repeat (first | (with_reducible first | exact HB.out | apply below_alloc | apply pw_below_drewN | apply below_drew1) | exact HB.out)))); (case aL => have := LMc3.out; omega); intro v184 w6 ho hb hg hat; rw [← Ny183.out] at ho; have n0_ := Aside0.mk (hb); have n1_ := Aside0.mk (ho); clear HB; clear HO182; have HB := n0_; have HO185 := n1_; clear n0_ n1_; clear ho hb hg hat))
    go_loopg [5, 6] k (fun kq v5 v6 w' => ∃ (x5_1 : List Int) (x6_1 : Int), v6 = .int .i64 x6_1 ∧ Aside0 (deckleref03_Put.l0 kq l1 x5_1 x6_1 = some r) ∧ Aside0 (kq ≤ k) ∧ Aside0 (Kd.R (Kd.int .u8) 5 w' w.heap.size (fun _ => True) v5 x5_1) ∧ Aside0 (Below w.heap.size w w'))
    case atStart => exact ⟨(y183), (0), (by first | rfl | (simp; done) | (simp [*]; done)), H', ⟨Nat.le_refl _⟩, ⟨by (with_reducible repeat (first | apply Kd.R_alloc | apply Kd.R_drewN | apply Kd.R_drew)); exact HO185.out⟩, ⟨by repeat (first | (with_reducible first | exact HB.out | apply below_alloc | apply pw_below_drewN | apply below_drew1) | exact HB.out)⟩⟩
    case round =>
      clear H'
      try clear c1
      try clear p2
      try clear c3
      obtain ⟨x5_1, x6_1, rfl, HA, HK1, HO_5, HB⟩ := hrel
      cases gk with
      | zero => exact absurd HA.out (by simp [deckleref03_Put.l0])
      | succ k1 =>
        have H := HA.out
        clear HA
        simp only [deckleref03_Put.l0] at H
        by_cases c7 : x6_1 < (l1.length : Int)
        · rw [if_pos c7] at H
          have c7b0 : decide (x6_1 < (l1.length : Int)) = true := decide_eq_true c7
          clear c7
          by_cases c8 : 0 ≤ x6_1
          · rw [if_pos c8] at H
            have c8b0 : decide (0 ≤ x6_1) = true := decide_eq_true c8
            clear c8
            replace H := Option.bind_eq_some_iff.mp H
            obtain ⟨t187, A90, H⟩ := H
            replace H : (if x5_1.length + t187.length < 140737488355328 then (deckleref03_Put.l0 k1 l1 (x5_1 ++ t187) (wrap64 (x6_1 + 1))) else (none)) = some r := H
            have A9 := Aside0.mk A90
            clear A90
            by_cases c10 : x5_1.length + t187.length < 140737488355328
            · rw [if_pos c10] at H
              have LMc10 := Aside0.mk c10
              clear c10
              obtain ⟨y190, hy190⟩ : ∃ y_ : List Int, y_ = (x5_1 ++ t187) := ⟨_, rfl⟩
              replace H : (deckleref03_Put.l0 k1 l1 y190 (wrap64 (x6_1 + 1))) = some r := by first | (rw [hy190]; with_reducible exact H) | (have H2_ := (Option.bind_some _ _).symm.trans H; rw [hy190]; with_reducible exact H2_) | (have H2_ := (Option.bind_some _ _).symm.trans H; with_reducible exact H2_) | with_reducible exact H | (rw [hy190]; exact H) | exact H
              have Ny190 := Aside0.mk hy190
              clear hy190
              have H' := Aside0.mk H
              clear H
              have p186 : 0 ≤ (x6_1 : Int) := of_decide_eq_true (by first | (with_reducible assumption) | assumption)
              have q186 : x6_1 < (l1.length : Int) := of_decide_eq_true (by first | (with_reducible assumption) | assumption)
              obtain ⟨ad186, e186, hx186_0⟩ := Kd.at_int HR1.out x6_1 p186 q186
              cases e186
              replace hx186_0 := (HB.out.cell (World.block_lt_of_cell? w _ hx186_0)).trans hx186_0
              replace p186 := eq_true p186
              replace q186 := eq_true q186
              go_wp2_with (first | ((with_reducible refine gate_callee (f := 22) rfl ?_); refine goesL_ (some 21) rfl rfl Try.func22 (by kernel_rfl) rfl #[.int .u64 (rd l1 x6_1)] rfl (by (try simp only [List.map_toArray, List.map_cons, List.map_nil]); first | done | rfl | (simp only [List.length_drop, List.length_take]; rfl)) ?_; (with_reducible refine (deckleref03_one.calls k1 (rd l1 x6_1) t187 _ A9.out).mono ?_); rintro e w11 ⟨v188, rfl, ho0, hb⟩; refine ⟨_, rfl, ?_⟩; have n0_ := Aside0.mk (Kd.R_elder' (by (with_reducible repeat (first | apply Kd.R_alloc | apply Kd.R_drewN | apply Kd.R_drew)); exact HO_5.out) (Kd.R_base ho0) hb); have n1_ := Aside0.mk (Kd.R_lower (Kd.R_new' ho0 (Kd.R_lt (by (with_reducible repeat (first | apply Kd.R_alloc | apply Kd.R_drewN | apply Kd.R_drew)); exact HO_5.out))) (below_size (by repeat (first | (with_reducible first | exact HB.out | apply below_alloc | apply pw_below_drewN | apply below_drew1) | exact HB.out)))); have n2_ := Aside0.mk (below_step (by repeat (first | (with_reducible first | exact HB.out | apply below_alloc | apply pw_below_drewN | apply below_drew1) | exact HB.out)) hb); clear HO_5; clear HB; have HO_5 := n0_; have HO189 := n1_; have HB := n2_; clear n0_ n1_ n2_; (try clear hb); (try clear hb2); (try clear hk); (try clear hi); (try clear ho0); obtain ⟨Ao13, co13, eo13⟩ := Kd.R_slice HO189.out; subst eo13) | ((with_reducible refine gate_builtin (b := .append) (xs := #[.tmp 16, .tmp 21]) rfl ?_); at_builtin; refine Kd.R_append_rows (Kd.int .u8) (w0 := w) w.heap.size rfl (.tmp 16) (.tmp 21) 22 5 (.int .u8 0) 1 rfl Try.underlying22 info5 rfl (by decide) (by omega) u5 x5_1 t187 _ _ _ (fun k_ => some k_ ≠ (.slice Ao13 t187.length co13 : Value).ownBlock) (fun _ => False) rfl rfl ?aO ?aR (fun _ _ h => h) (fun _ h => h.elim) ?aF ?aB ?aS ?aL ?_; (case aR => repeat (first | exact (Kd.R_reads' HO189.out).2.2 | (with_reducible refine Kd.C_alloc ?_ _) | (with_reducible refine Kd.C_drewN ?_ _) | (with_reducible refine Kd.C_drew ?_))); (case aB => exact (by repeat (first | (with_reducible first | exact HB.out | apply below_alloc | apply pw_below_drewN | apply below_drew1) | exact HB.out))); (case aF => exact (fun k_ hk => Kd.fresh' (Kd.R_lt (by (with_reducible repeat (first | apply Kd.R_alloc | apply Kd.R_drewN | apply Kd.R_drew)); exact HO189.out)) k_ hk)); (case aO => exact (by (with_reducible repeat (first | apply Kd.R_alloc | apply Kd.R_drewN | apply Kd.R_drew)); exact Kd.R_mono HO_5.out (fun _ hk => hk.2))); (case aS => exact (below_size (by repeat (first | (with_reducible first | exact HB.out | apply below_alloc | apply pw_below_drewN | apply below_drew1) | exact HB.out)))); (case aL => have := LMc10.out; omega); intro v191 w12 ho hb hg hat; rw [← Ny190.out] at ho; have n0_ := Aside0.mk (Kd.R_after (ok := (fun _ => True)) (by (with_reducible repeat (first | apply Kd.R_alloc | apply Kd.R_drewN | apply Kd.R_drew)); exact HO189.out) hg hat); have n1_ := Aside0.mk (hb); have n2_ := Aside0.mk (ho); clear HO189; clear HB; clear HO_5; have HO189 := n0_; have HB := n1_; have HO192 := n2_; clear n0_ n1_ n2_; clear ho hb hg hat))
              go_roundg k1
              case measure => have := HK1.out; omega
              case rel => exact ⟨(y190), (wrap64 (x6_1 + 1)), (by first | rfl | (simp; done) | (simp [*]; done)), H', ⟨by have := HK1.out; omega⟩, ⟨by (with_reducible repeat (first | apply Kd.R_alloc | apply Kd.R_drewN | apply Kd.R_drew)); exact Kd.R_mono HO192.out (fun _ hk => trivial)⟩, ⟨by repeat (first | (with_reducible first | exact HB.out | apply below_alloc | apply pw_below_drewN | apply below_drew1) | exact HB.out)⟩⟩
            · rw [if_neg c10] at H
              exact absurd H (by simp)
          · rw [if_neg c8] at H
            exact absurd H (by simp)
        · rw [if_neg c7] at H
          have c7b0 : decide (x6_1 < (l1.length : Int)) = false := decide_eq_false c7
          clear c7
          obtain rfl := Option.some.inj H
          go_wp2
          go_ret
          exact ⟨_, by first | rfl | (simp [errW_none, errW_some] <;> rfl) | (simp [*, errW_none, errW_some] <;> rfl), by (with_reducible repeat (first | apply Kd.R_alloc | apply Kd.R_drewN | apply Kd.R_drew)); exact HO_5.out, by repeat (first | (with_reducible first | exact HB.out | apply below_alloc | apply pw_below_drewN | apply below_drew1) | exact HB.out)⟩
  · rw [if_neg c3] at H
    exact absurd H (by simp)

/-! ### deckleref03_Zig: function 15 -/
def deckleref03_Zig.f (a0 : Int) : Option (Int) := if a0 ≥ 0 then (some (IntKind.u64.wrap (2 * (IntKind.u64.wrap (a0))))) else (some (IntKind.u64.wrap ((IntKind.u64.wrap (2 * (IntKind.u64.wrap (wrap64 (-(wrap64 (a0 + 1))))))) + 1)))
set_option maxHeartbeats 8000000 in
set_option maxRecDepth 100000 in
theorem deckleref03_Zig.calls (a0 : Int) (r : Int) (w : World) (h : deckleref03_Zig.f a0 = some r) :
    Calls Try.prog 15 #[.int .i64 a0] w fun e w' => e = .returned (.int .u64 r) ∧ Drawn0 w w' := by
  have H : (if a0 ≥ 0 then (some (IntKind.u64.wrap (2 * (IntKind.u64.wrap (a0))))) else (some (IntKind.u64.wrap ((IntKind.u64.wrap (2 * (IntKind.u64.wrap (wrap64 (-(wrap64 (a0 + 1))))))) + 1)))) = some r := h
  clear h
  by_cases c2 : a0 ≥ 0
  · rw [if_pos c2] at H
    have c2b0 : decide (0 ≤ a0) = true := decide_eq_true c2
    clear c2
    obtain rfl := Option.some.inj H
    go_enter Try.func15, Try.ntmps15
    go_wp2
    go_ret
    exact ⟨by first | rfl | (simp; done) | (simp [*]; done), by repeat (first | exact Drawn0.refl _ | apply Drawn0.step)⟩
  · rw [if_neg c2] at H
    have c2b0 : decide (0 ≤ a0) = false := decide_eq_false c2
    clear c2
    obtain rfl := Option.some.inj H
    go_enter Try.func15, Try.ntmps15
    go_wp2
    go_ret
    exact ⟨by first | rfl | (simp; done) | (simp [*]; done), by repeat (first | exact Drawn0.refl _ | apply Drawn0.step)⟩

/-! ### deckleref03_Size: function 17 -/
def deckleref03_Size.f (k : Nat) (a0 : Int) : Option (Int) := (deckleref03_one.f k a0).bind fun t193 => (some (t193.length : Int))
theorem deckleref03_Size.mono : ∀ a0 k, LeO (deckleref03_Size.f k a0) (deckleref03_Size.f (k + 1) a0) := by
  intro a0 k
  unfold deckleref03_Size.f
  repeat' first
      | (with_reducible exact deckleref03_one.mono _ _)
      | (with_reducible exact LeO.refl _)
      | (with_reducible exact LeO.none _)
      | (with_reducible refine LeO.ite ?_ ?_)
      | (with_reducible refine LeO.bind ?_ (fun _ => ?_))
      | exact deckleref03_one.mono _ _
      | exact LeO.none _
      | refine LeO.ite ?_ ?_
      | refine LeO.bind ?_ (fun _ => ?_)
set_option maxHeartbeats 8000000 in
set_option maxRecDepth 100000 in
theorem deckleref03_Size.calls (k : Nat) (a0 : Int) (r : Int) (w : World) (h : deckleref03_Size.f k a0 = some r) :
    Calls Try.prog 17 #[.int .u64 a0] w fun e w' => e = .returned (.int .i64 r) ∧ Below w.heap.size w w' := by
  have HB := Aside0.mk (Below.refl w.heap.size w)
  have H : ((deckleref03_one.f k a0).bind fun t193 => (some (t193.length : Int))) = some r := h
  clear h
  replace H := Option.bind_eq_some_iff.mp H
  obtain ⟨t193, A20, H⟩ := H
  replace H : (some (t193.length : Int)) = some r := H
  have A2 := Aside0.mk A20
  clear A20
  obtain rfl := Option.some.inj H
  go_enter Try.func17, Try.ntmps17
  go_wp2_with (first | ((with_reducible refine gate_callee (f := 22) rfl ?_); refine goesL_ (some 4) rfl rfl Try.func22 (by kernel_rfl) rfl #[.int .u64 a0] rfl (by (try simp only [List.map_toArray, List.map_cons, List.map_nil]); first | done | rfl | (simp only [List.length_drop, List.length_take]; rfl)) ?_; (with_reducible refine (deckleref03_one.calls k a0 t193 _ A2.out).mono ?_); rintro e w3 ⟨v194, rfl, ho0, hb⟩; refine ⟨_, rfl, ?_⟩; have n0_ := Aside0.mk (Kd.R_lower ho0 (below_size (by repeat (first | (with_reducible first | exact HB.out | apply below_alloc | apply pw_below_drewN | apply below_drew1) | exact HB.out)))); have n1_ := Aside0.mk (below_step (by repeat (first | (with_reducible first | exact HB.out | apply below_alloc | apply pw_below_drewN | apply below_drew1) | exact HB.out)) hb); clear HB; have HO195 := n0_; have HB := n1_; clear n0_ n1_; (try clear hb); (try clear hb2); (try clear hk); (try clear hi); (try clear ho0); obtain ⟨Ao4, co4, eo4⟩ := Kd.R_slice HO195.out; subst eo4))
  go_ret
  exact ⟨by first | rfl | (simp [errW_none, errW_some] <;> rfl) | (simp [*, errW_none, errW_some] <;> rfl), by repeat (first | (with_reducible first | exact HB.out | apply below_alloc | apply pw_below_drewN | apply below_drew1) | exact HB.out)⟩

/-! ### deckleref03_Zag: function 19 -/
def deckleref03_Zag.f (a0 : Int) : Option (Int) := if (Int.tmod a0 2) = 0 then (some (wrap64 (IntKind.u64.wrap (Int.tdiv a0 2)))) else (some (wrap64 ((wrap64 (-(wrap64 (IntKind.u64.wrap (Int.tdiv a0 2))))) - 1)))
set_option maxHeartbeats 8000000 in
set_option maxRecDepth 100000 in
theorem deckleref03_Zag.calls (a0 : Int) (r : Int) (w : World) (h : deckleref03_Zag.f a0 = some r) :
    Calls Try.prog 19 #[.int .u64 a0] w fun e w' => e = .returned (.int .i64 r) ∧ Drawn0 w w' := by
  have H : (if (Int.tmod a0 2) = 0 then (some (wrap64 (IntKind.u64.wrap (Int.tdiv a0 2)))) else (some (wrap64 ((wrap64 (-(wrap64 (IntKind.u64.wrap (Int.tdiv a0 2))))) - 1)))) = some r := h
  clear h
  by_cases c2 : (Int.tmod a0 2) = 0
  · rw [if_pos c2] at H
    have c2b0 : ((Int.tmod a0 2) == 0) = true := beq_iff_eq.mpr c2
    have c2b1 : ((Int.tmod a0 2) != 0) = false := bne_eq_false_iff_eq.mpr c2
    clear c2
    obtain rfl := Option.some.inj H
    go_enter Try.func19, Try.ntmps19
    go_wp2
    go_ret
    exact ⟨by first | rfl | (simp; done) | (simp [*]; done), by repeat (first | exact Drawn0.refl _ | apply Drawn0.step)⟩
  · rw [if_neg c2] at H
    have c2b0 : ((Int.tmod a0 2) == 0) = false := beq_eq_false_iff_ne.mpr c2
    have c2b1 : ((Int.tmod a0 2) != 0) = true := bne_iff_ne.mpr c2
    obtain rfl := Option.some.inj H
    go_enter Try.func19, Try.ntmps19
    go_wp2
    go_ret
    exact ⟨by first | rfl | (simp; done) | (simp [*]; done), by repeat (first | exact Drawn0.refl _ | apply Drawn0.step)⟩

end Go.Proofs.Ytamcgfnmnlpneaa.HVarintTells
