-- Written by the session's program hy.py.
import Derived.Test.YtdoofhbapenhnaaHCrcTellsx0
import Derived.Test.YtdoofhbapenhnaaHCrcTellsx1
import Derived.Test.YtdoofhbapenhnaaHCrcTellsx2
namespace Go.Proofs.Ytdoofhbapenhnaa.HCrcTells
open Go.RowKit Go.Proofs.YtdoofhbapenhnaaW.PrintWords Go.Proofs.YtdoofhbapenhnaaW.PrintLast Go.Proofs.YtdoofhbapenhnaaW.PrintMore
attribute [local go_sem] max2_int min2_int max_two min_two max_three min_three max_four min_four   -- for this text's walks alone
set_option linter.unusedVariables false
set_option linter.unusedSimpArgs false

/-! ### decklelaw02_small: function 8 -/
theorem lit_conv {P : Program} {ops : Array Oper} {rest : List Oper} {o : Oper} {a : Act} {Q : Exit → Act → World → Prop} {W : World} (hgd : o.guard = none) (t e : TypeId) (x : Operand) (ho : o.op = .convert t t x)
    (ht : P.underlying t = some (.slice e)) (he : P.underlying e = some (.int .u8)) (bs : List Int) (C : Array Value) (hC : C = (nums .u8 bs).toArray) (n : Nat) (hn : n = bs.length) (hm : bs.length ≤ 9223372036854775807) (hx : a.eval x = .slice (some ⟨W.heap.size, 0, none⟩) n n)
    (h : ∀ v w1, Kd.V (Kd.int .u8) e w1 W.heap.size (fun k => W.heap.size ≤ k) v bs → Below W.heap.size W w1 → wpList P ops Q rest (a.put o.dst v) w1) : wpList P ops Q (o :: rest) a (W.alloc (.cells C e)) := by
  subst hn
  have hrun : (execOp a.eval o).run P (W.alloc (.cells C e)) = .ok (.value (.slice (some ⟨W.heap.size, 0, none⟩) bs.length bs.length)) (W.alloc (.cells C e (C.size, C.size + 1))) := by
    have h1 := Lib.run_convert_bytes_const (P := P) W t e C bs.length bs.length ht he
    unfold execOp
    simp only [ho, Sem.run_bind, hx, h1, Result.andThen_ok, Sem.run_pure]
  refine Kd.event_run hgd hrun (h _ _ ⟨some ⟨W.heap.size, 0, none⟩, bs.length, rfl, Nat.le_refl _, fun W' hW => ?_⟩ (below_alloc (Below.refl _ _) _))
  have hblk : W'.heap[W.heap.size]? = some (.cells C e (C.size, C.size + 1)) := (hW W.heap.size (Nat.le_refl _) (by simp)).trans (heap_alloc_new W _)
  refine Kd.C_of_reads (d := (0 : Int)) (h1 := fun _ => rfl) ⟨rfl, hm, fun _ => ⟨⟨W.heap.size, 0, none⟩, rfl, fun j hj => ?_⟩⟩
  rw [add_plain]
  simp only [World.cell?, hblk, hC]
  simp [nums, List.getElem?_eq_getElem hj, List.getD_eq_getElem?_getD]
def hylit100000.f : Option (List Int) := some [49, 50, 51, 52]
def hylit100001.f : Option (List Int) := some [53, 54, 55, 56, 57]
def hylit100002.f : Option (List Int) := some [49, 50, 51, 52, 53, 54, 55, 56, 57]
def decklelaw02_small.f (k : Nat)  : Option (Bool) := (crc_Table.f 3988292384).bind fun t152 => ((hylit100000.f).bind fun t154 => ((hylit100001.f).bind fun t157 => ((crc_Seal.f k t152 (([t154, [], t157] : List (List Int)))).bind fun t163 => ((crc_Open.f k t152 t163).bind fun bt166 => (if 0 ≤ (mn (t163.length : Int) 3) then (if (mn (t163.length : Int) 3) ≤ (t163.length : Int) then ((crc_Open.f k t152 (t163.take ((mn (t163.length : Int) 3) : Int).toNat)).bind fun bt175 => ((crc_Open.f k t152 (([0, 0, 0, 0] : List Int))).bind fun bt182 => (if 0 < 256 then (if (rd t152 0) = 0 then (if 1 < 256 then (if (rd t152 1) = 1996959894 then (if 128 < 256 then (if (rd t152 128) = 3988292384 then ((hylit100002.f).bind fun t186 => ((crc_Sum.f k t152 (([t186] : List (List Int)))).bind fun t192 => (if t192 = 3421780262 then ((crc_Sum.f k t152 ([] : List (List Int))).bind fun t193 => (if t193 = 0 then (if (strOfNums t163).toList = ([49, 50, 51, 52, 53, 54, 55, 56, 57, 38, 57, 244, 203] : List UInt8) then (if (strOfNums bt166.1).toList = ([49, 50, 51, 52, 53, 54, 55, 56, 57] : List UInt8) then (if bt166.2 = true then (if bt175.2 = true then (none) else (if (bt182.1.length : Int) = 0 then (some bt182.2) else (none))) else (none)) else (none)) else (none)) else (none))) else (none)))) else (none)) else (none)) else (none)) else (none)) else (none)) else (none)))) else (none)) else (none))))))
theorem decklelaw02_small.mono : ∀ k, LeO (decklelaw02_small.f k ) (decklelaw02_small.f (k + 1) ) := by
  intro  k
  unfold decklelaw02_small.f
  repeat' first
      | (with_reducible exact crc_Open.mono _ _ _)
      | (with_reducible exact crc_Seal.mono _ _ _)
      | (with_reducible exact crc_Sum.mono _ _ _)
      | (with_reducible exact LeO.refl _)
      | (with_reducible exact LeO.none _)
      | (with_reducible refine LeO.ite ?_ ?_)
      | (with_reducible refine LeO.bind ?_ (fun _ => ?_))
      | exact crc_Open.mono _ _ _
      | exact crc_Seal.mono _ _ _
      | exact crc_Sum.mono _ _ _
      | exact LeO.none _
      | refine LeO.ite ?_ ?_
      | refine LeO.bind ?_ (fun _ => ?_)
def decklelaw02_small.T4 : Bool × List (List Nat × List Nat) := (true, [([], []), ([], []), ([], []), ([2], [2]), ([3], [3]), ([1, 4], [1, 4]), ([0, 5], [0, 5]), ([6], [6]), ([7], [7]), ([7], [7]), ([8, 6, 0, 1, 2, 3, 4, 5, 6, 7, 8], [8]), ([9, 10, 0, 1, 2, 3, 4, 5, 6, 7, 8, 9, 10], [9])])
def decklelaw02_small.B4 : List Nat := [0, 0, 0, 4, 12, 30, 63, 127, 255, 255, 511, 2047]
theorem decklelaw02_small.tab4 : rtab .any (opsOf Try.f8 4) = decklelaw02_small.T4 := by kernel_rfl
theorem decklelaw02_small.bits4 : waitsOk decklelaw02_small.T4.2 decklelaw02_small.B4 = true := by kernel_rfl
set_option maxHeartbeats 8000000 in
set_option maxRecDepth 100000 in
theorem decklelaw02_small.calls (k : Nat)  (r : Bool) (w : World) (h : decklelaw02_small.f k  = some r) :
    Calls Try.prog 8 #[] w fun e w' => e = .returned (.bool r) ∧ Below w.heap.size w w' := by
  have hu24 := Try.underlying24
  have HB := Aside0.mk (Below.refl w.heap.size w)
  have H : ((crc_Table.f 3988292384).bind fun t152 => ((hylit100000.f).bind fun t154 => ((hylit100001.f).bind fun t157 => ((crc_Seal.f k t152 (([t154, [], t157] : List (List Int)))).bind fun t163 => ((crc_Open.f k t152 t163).bind fun bt166 => (if 0 ≤ (mn (t163.length : Int) 3) then (if (mn (t163.length : Int) 3) ≤ (t163.length : Int) then ((crc_Open.f k t152 (t163.take ((mn (t163.length : Int) 3) : Int).toNat)).bind fun bt175 => ((crc_Open.f k t152 (([0, 0, 0, 0] : List Int))).bind fun bt182 => (if 0 < 256 then (if (rd t152 0) = 0 then (if 1 < 256 then (if (rd t152 1) = 1996959894 then (if 128 < 256 then (if (rd t152 128) = 3988292384 then ((hylit100002.f).bind fun t186 => ((crc_Sum.f k t152 (([t186] : List (List Int)))).bind fun t192 => (if t192 = 3421780262 then ((crc_Sum.f k t152 ([] : List (List Int))).bind fun t193 => (if t193 = 0 then (if (strOfNums t163).toList = ([49, 50, 51, 52, 53, 54, 55, 56, 57, 38, 57, 244, 203] : List UInt8) then (if (strOfNums bt166.1).toList = ([49, 50, 51, 52, 53, 54, 55, 56, 57] : List UInt8) then (if bt166.2 = true then (if bt175.2 = true then (none) else (if (bt182.1.length : Int) = 0 then (some bt182.2) else (none))) else (none)) else (none)) else (none)) else (none))) else (none)))) else (none)) else (none)) else (none)) else (none)) else (none)) else (none)))) else (none)) else (none))))))) = some r := h
  clear h
  replace H := Option.bind_eq_some_iff.mp H
  obtain ⟨t152, A10, H⟩ := H
  replace H : ((hylit100000.f).bind fun t154 => ((hylit100001.f).bind fun t157 => ((crc_Seal.f k t152 (([t154, [], t157] : List (List Int)))).bind fun t163 => ((crc_Open.f k t152 t163).bind fun bt166 => (if 0 ≤ (mn (t163.length : Int) 3) then (if (mn (t163.length : Int) 3) ≤ (t163.length : Int) then ((crc_Open.f k t152 (t163.take ((mn (t163.length : Int) 3) : Int).toNat)).bind fun bt175 => ((crc_Open.f k t152 (([0, 0, 0, 0] : List Int))).bind fun bt182 => (if 0 < 256 then (if (rd t152 0) = 0 then (if 1 < 256 then (if (rd t152 1) = 1996959894 then (if 128 < 256 then (if (rd t152 128) = 3988292384 then ((hylit100002.f).bind fun t186 => ((crc_Sum.f k t152 (([t186] : List (List Int)))).bind fun t192 => (if t192 = 3421780262 then ((crc_Sum.f k t152 ([] : List (List Int))).bind fun t193 => (if t193 = 0 then (if (strOfNums t163).toList = ([49, 50, 51, 52, 53, 54, 55, 56, 57, 38, 57, 244, 203] : List UInt8) then (if (strOfNums bt166.1).toList = ([49, 50, 51, 52, 53, 54, 55, 56, 57] : List UInt8) then (if bt166.2 = true then (if bt175.2 = true then (none) else (if (bt182.1.length : Int) = 0 then (some bt182.2) else (none))) else (none)) else (none)) else (none)) else (none))) else (none)))) else (none)) else (none)) else (none)) else (none)) else (none)) else (none)))) else (none)) else (none)))))) = some r := H
  have A1 := Aside0.mk A10
  clear A10
  replace H := Option.bind_eq_some_iff.mp H
  obtain ⟨t154, A20, H⟩ := H
  replace H : ((hylit100001.f).bind fun t157 => ((crc_Seal.f k t152 (([t154, [], t157] : List (List Int)))).bind fun t163 => ((crc_Open.f k t152 t163).bind fun bt166 => (if 0 ≤ (mn (t163.length : Int) 3) then (if (mn (t163.length : Int) 3) ≤ (t163.length : Int) then ((crc_Open.f k t152 (t163.take ((mn (t163.length : Int) 3) : Int).toNat)).bind fun bt175 => ((crc_Open.f k t152 (([0, 0, 0, 0] : List Int))).bind fun bt182 => (if 0 < 256 then (if (rd t152 0) = 0 then (if 1 < 256 then (if (rd t152 1) = 1996959894 then (if 128 < 256 then (if (rd t152 128) = 3988292384 then ((hylit100002.f).bind fun t186 => ((crc_Sum.f k t152 (([t186] : List (List Int)))).bind fun t192 => (if t192 = 3421780262 then ((crc_Sum.f k t152 ([] : List (List Int))).bind fun t193 => (if t193 = 0 then (if (strOfNums t163).toList = ([49, 50, 51, 52, 53, 54, 55, 56, 57, 38, 57, 244, 203] : List UInt8) then (if (strOfNums bt166.1).toList = ([49, 50, 51, 52, 53, 54, 55, 56, 57] : List UInt8) then (if bt166.2 = true then (if bt175.2 = true then (none) else (if (bt182.1.length : Int) = 0 then (some bt182.2) else (none))) else (none)) else (none)) else (none)) else (none))) else (none)))) else (none)) else (none)) else (none)) else (none)) else (none)) else (none)))) else (none)) else (none))))) = some r := H
  have A2 := Aside0.mk A20
  clear A20
  replace H := Option.bind_eq_some_iff.mp H
  obtain ⟨t157, A30, H⟩ := H
  replace H : ((crc_Seal.f k t152 (([t154, [], t157] : List (List Int)))).bind fun t163 => ((crc_Open.f k t152 t163).bind fun bt166 => (if 0 ≤ (mn (t163.length : Int) 3) then (if (mn (t163.length : Int) 3) ≤ (t163.length : Int) then ((crc_Open.f k t152 (t163.take ((mn (t163.length : Int) 3) : Int).toNat)).bind fun bt175 => ((crc_Open.f k t152 (([0, 0, 0, 0] : List Int))).bind fun bt182 => (if 0 < 256 then (if (rd t152 0) = 0 then (if 1 < 256 then (if (rd t152 1) = 1996959894 then (if 128 < 256 then (if (rd t152 128) = 3988292384 then ((hylit100002.f).bind fun t186 => ((crc_Sum.f k t152 (([t186] : List (List Int)))).bind fun t192 => (if t192 = 3421780262 then ((crc_Sum.f k t152 ([] : List (List Int))).bind fun t193 => (if t193 = 0 then (if (strOfNums t163).toList = ([49, 50, 51, 52, 53, 54, 55, 56, 57, 38, 57, 244, 203] : List UInt8) then (if (strOfNums bt166.1).toList = ([49, 50, 51, 52, 53, 54, 55, 56, 57] : List UInt8) then (if bt166.2 = true then (if bt175.2 = true then (none) else (if (bt182.1.length : Int) = 0 then (some bt182.2) else (none))) else (none)) else (none)) else (none)) else (none))) else (none)))) else (none)) else (none)) else (none)) else (none)) else (none)) else (none)))) else (none)) else (none)))) = some r := H
  have A3 := Aside0.mk A30
  clear A30
  obtain ⟨y160, hy160⟩ : ∃ y_ : List (List Int), y_ = (([t154, [], t157] : List (List Int))) := ⟨_, rfl⟩
  replace H : ((crc_Seal.f k t152 y160).bind fun t163 => ((crc_Open.f k t152 t163).bind fun bt166 => (if 0 ≤ (mn (t163.length : Int) 3) then (if (mn (t163.length : Int) 3) ≤ (t163.length : Int) then ((crc_Open.f k t152 (t163.take ((mn (t163.length : Int) 3) : Int).toNat)).bind fun bt175 => ((crc_Open.f k t152 (([0, 0, 0, 0] : List Int))).bind fun bt182 => (if 0 < 256 then (if (rd t152 0) = 0 then (if 1 < 256 then (if (rd t152 1) = 1996959894 then (if 128 < 256 then (if (rd t152 128) = 3988292384 then ((hylit100002.f).bind fun t186 => ((crc_Sum.f k t152 (([t186] : List (List Int)))).bind fun t192 => (if t192 = 3421780262 then ((crc_Sum.f k t152 ([] : List (List Int))).bind fun t193 => (if t193 = 0 then (if (strOfNums t163).toList = ([49, 50, 51, 52, 53, 54, 55, 56, 57, 38, 57, 244, 203] : List UInt8) then (if (strOfNums bt166.1).toList = ([49, 50, 51, 52, 53, 54, 55, 56, 57] : List UInt8) then (if bt166.2 = true then (if bt175.2 = true then (none) else (if (bt182.1.length : Int) = 0 then (some bt182.2) else (none))) else (none)) else (none)) else (none)) else (none))) else (none)))) else (none)) else (none)) else (none)) else (none)) else (none)) else (none)))) else (none)) else (none)))) = some r := by first | (rw [hy160]; with_reducible exact H) | (have H2_ := (Option.bind_some _ _).symm.trans H; rw [hy160]; with_reducible exact H2_) | (have H2_ := (Option.bind_some _ _).symm.trans H; with_reducible exact H2_) | with_reducible exact H | (rw [hy160]; exact H) | exact H
  have Ny160 := Aside0.mk hy160
  clear hy160
  replace H := Option.bind_eq_some_iff.mp H
  obtain ⟨t163, A40, H⟩ := H
  replace H : ((crc_Open.f k t152 t163).bind fun bt166 => (if 0 ≤ (mn (t163.length : Int) 3) then (if (mn (t163.length : Int) 3) ≤ (t163.length : Int) then ((crc_Open.f k t152 (t163.take ((mn (t163.length : Int) 3) : Int).toNat)).bind fun bt175 => ((crc_Open.f k t152 (([0, 0, 0, 0] : List Int))).bind fun bt182 => (if 0 < 256 then (if (rd t152 0) = 0 then (if 1 < 256 then (if (rd t152 1) = 1996959894 then (if 128 < 256 then (if (rd t152 128) = 3988292384 then ((hylit100002.f).bind fun t186 => ((crc_Sum.f k t152 (([t186] : List (List Int)))).bind fun t192 => (if t192 = 3421780262 then ((crc_Sum.f k t152 ([] : List (List Int))).bind fun t193 => (if t193 = 0 then (if (strOfNums t163).toList = ([49, 50, 51, 52, 53, 54, 55, 56, 57, 38, 57, 244, 203] : List UInt8) then (if (strOfNums bt166.1).toList = ([49, 50, 51, 52, 53, 54, 55, 56, 57] : List UInt8) then (if bt166.2 = true then (if bt175.2 = true then (none) else (if (bt182.1.length : Int) = 0 then (some bt182.2) else (none))) else (none)) else (none)) else (none)) else (none))) else (none)))) else (none)) else (none)) else (none)) else (none)) else (none)) else (none)))) else (none)) else (none))) = some r := H
  have A4 := Aside0.mk A40
  clear A40
  replace H := Option.bind_eq_some_iff.mp H
  obtain ⟨⟨t166, t169⟩, A50, H⟩ := H
  replace H : (if 0 ≤ (mn (t163.length : Int) 3) then (if (mn (t163.length : Int) 3) ≤ (t163.length : Int) then ((crc_Open.f k t152 (t163.take ((mn (t163.length : Int) 3) : Int).toNat)).bind fun bt175 => ((crc_Open.f k t152 (([0, 0, 0, 0] : List Int))).bind fun bt182 => (if 0 < 256 then (if (rd t152 0) = 0 then (if 1 < 256 then (if (rd t152 1) = 1996959894 then (if 128 < 256 then (if (rd t152 128) = 3988292384 then ((hylit100002.f).bind fun t186 => ((crc_Sum.f k t152 (([t186] : List (List Int)))).bind fun t192 => (if t192 = 3421780262 then ((crc_Sum.f k t152 ([] : List (List Int))).bind fun t193 => (if t193 = 0 then (if (strOfNums t163).toList = ([49, 50, 51, 52, 53, 54, 55, 56, 57, 38, 57, 244, 203] : List UInt8) then (if (strOfNums t166).toList = ([49, 50, 51, 52, 53, 54, 55, 56, 57] : List UInt8) then (if t169 = true then (if bt175.2 = true then (none) else (if (bt182.1.length : Int) = 0 then (some bt182.2) else (none))) else (none)) else (none)) else (none)) else (none))) else (none)))) else (none)) else (none)) else (none)) else (none)) else (none)) else (none)))) else (none)) else (none)) = some r := H
  have A5 := Aside0.mk A50
  clear A50
  obtain ⟨ji6, hji6⟩ : ∃ j_ : Int, (mn (t163.length : Int) 3) = j_ := ⟨_, rfl⟩
  replace H : (if 0 ≤ (ji6) then (if (ji6) ≤ (t163.length : Int) then ((crc_Open.f k t152 (t163.take ((ji6) : Int).toNat)).bind fun bt175 => ((crc_Open.f k t152 (([0, 0, 0, 0] : List Int))).bind fun bt182 => (if 0 < 256 then (if (rd t152 0) = 0 then (if 1 < 256 then (if (rd t152 1) = 1996959894 then (if 128 < 256 then (if (rd t152 128) = 3988292384 then ((hylit100002.f).bind fun t186 => ((crc_Sum.f k t152 (([t186] : List (List Int)))).bind fun t192 => (if t192 = 3421780262 then ((crc_Sum.f k t152 ([] : List (List Int))).bind fun t193 => (if t193 = 0 then (if (strOfNums t163).toList = ([49, 50, 51, 52, 53, 54, 55, 56, 57, 38, 57, 244, 203] : List UInt8) then (if (strOfNums t166).toList = ([49, 50, 51, 52, 53, 54, 55, 56, 57] : List UInt8) then (if t169 = true then (if bt175.2 = true then (none) else (if (bt182.1.length : Int) = 0 then (some bt182.2) else (none))) else (none)) else (none)) else (none)) else (none))) else (none)))) else (none)) else (none)) else (none)) else (none)) else (none)) else (none)))) else (none)) else (none)) = some r := by first | (rw [hji6] at H; exact H) | (simp only [hji6] at H ⊢; exact H)
  (try rw [hji6] at A1)
  (try rw [hji6] at A2)
  (try rw [hji6] at A3)
  (try rw [hji6] at A4)
  (try rw [hji6] at A5)
  (try (have hji6h : ji6 ≤ 3 := by (rw [← hji6]; unfold mn; (repeat' split) <;> omega)))
  (try (have hji6g : ji6 ≤ 64 := by omega))
  (try (have hji6l : 0 ≤ ji6 := by (rw [← hji6]; unfold mn; (repeat' split) <;> omega)))
  (try (have hji6m : 0 ≤ ji6 := by omega))
  have hji6_ : (if 3 < (t163.length : Int) then 3 else (t163.length : Int)) = ji6 := hji6
  by_cases c7 : 0 ≤ (ji6)
  · rw [if_pos c7] at H
    have c7b0 := eq_true c7
    have c7b1 : decide (0 ≤ (ji6)) = true := decide_eq_true c7
    clear c7
    by_cases c8 : (ji6) ≤ (t163.length : Int)
    · rw [if_pos c8] at H
      have c8b0 := eq_true c8
      have c8b1 : decide ((ji6) ≤ (t163.length : Int)) = true := decide_eq_true c8
      clear c8
      obtain ⟨y170, hy170⟩ : ∃ y_ : List Int, y_ = (t163.take ((ji6) : Int).toNat) := ⟨_, rfl⟩
      replace H : ((crc_Open.f k t152 y170).bind fun bt175 => ((crc_Open.f k t152 (([0, 0, 0, 0] : List Int))).bind fun bt182 => (if 0 < 256 then (if (rd t152 0) = 0 then (if 1 < 256 then (if (rd t152 1) = 1996959894 then (if 128 < 256 then (if (rd t152 128) = 3988292384 then ((hylit100002.f).bind fun t186 => ((crc_Sum.f k t152 (([t186] : List (List Int)))).bind fun t192 => (if t192 = 3421780262 then ((crc_Sum.f k t152 ([] : List (List Int))).bind fun t193 => (if t193 = 0 then (if (strOfNums t163).toList = ([49, 50, 51, 52, 53, 54, 55, 56, 57, 38, 57, 244, 203] : List UInt8) then (if (strOfNums t166).toList = ([49, 50, 51, 52, 53, 54, 55, 56, 57] : List UInt8) then (if t169 = true then (if bt175.2 = true then (none) else (if (bt182.1.length : Int) = 0 then (some bt182.2) else (none))) else (none)) else (none)) else (none)) else (none))) else (none)))) else (none)) else (none)) else (none)) else (none)) else (none)) else (none)))) = some r := by first | (rw [hy170]; with_reducible exact H) | (have H2_ := (Option.bind_some _ _).symm.trans H; rw [hy170]; with_reducible exact H2_) | (have H2_ := (Option.bind_some _ _).symm.trans H; with_reducible exact H2_) | with_reducible exact H | (rw [hy170]; exact H) | exact H
      have Ny170 := Aside0.mk hy170
      clear hy170
      replace H := Option.bind_eq_some_iff.mp H
      obtain ⟨⟨t175, t178⟩, A90, H⟩ := H
      replace H : ((crc_Open.f k t152 (([0, 0, 0, 0] : List Int))).bind fun bt182 => (if 0 < 256 then (if (rd t152 0) = 0 then (if 1 < 256 then (if (rd t152 1) = 1996959894 then (if 128 < 256 then (if (rd t152 128) = 3988292384 then ((hylit100002.f).bind fun t186 => ((crc_Sum.f k t152 (([t186] : List (List Int)))).bind fun t192 => (if t192 = 3421780262 then ((crc_Sum.f k t152 ([] : List (List Int))).bind fun t193 => (if t193 = 0 then (if (strOfNums t163).toList = ([49, 50, 51, 52, 53, 54, 55, 56, 57, 38, 57, 244, 203] : List UInt8) then (if (strOfNums t166).toList = ([49, 50, 51, 52, 53, 54, 55, 56, 57] : List UInt8) then (if t169 = true then (if t178 = true then (none) else (if (bt182.1.length : Int) = 0 then (some bt182.2) else (none))) else (none)) else (none)) else (none)) else (none))) else (none)))) else (none)) else (none)) else (none)) else (none)) else (none)) else (none))) = some r := H
      have A9 := Aside0.mk A90
      clear A90
      obtain ⟨y179, hy179⟩ : ∃ y_ : List Int, y_ = (([0, 0, 0, 0] : List Int)) := ⟨_, rfl⟩
      replace H : ((crc_Open.f k t152 y179).bind fun bt182 => (if 0 < 256 then (if (rd t152 0) = 0 then (if 1 < 256 then (if (rd t152 1) = 1996959894 then (if 128 < 256 then (if (rd t152 128) = 3988292384 then ((hylit100002.f).bind fun t186 => ((crc_Sum.f k t152 (([t186] : List (List Int)))).bind fun t192 => (if t192 = 3421780262 then ((crc_Sum.f k t152 ([] : List (List Int))).bind fun t193 => (if t193 = 0 then (if (strOfNums t163).toList = ([49, 50, 51, 52, 53, 54, 55, 56, 57, 38, 57, 244, 203] : List UInt8) then (if (strOfNums t166).toList = ([49, 50, 51, 52, 53, 54, 55, 56, 57] : List UInt8) then (if t169 = true then (if t178 = true then (none) else (if (bt182.1.length : Int) = 0 then (some bt182.2) else (none))) else (none)) else (none)) else (none)) else (none))) else (none)))) else (none)) else (none)) else (none)) else (none)) else (none)) else (none))) = some r := by first | (rw [hy179]; with_reducible exact H) | (have H2_ := (Option.bind_some _ _).symm.trans H; rw [hy179]; with_reducible exact H2_) | (have H2_ := (Option.bind_some _ _).symm.trans H; with_reducible exact H2_) | with_reducible exact H | (rw [hy179]; exact H) | exact H
      have Ny179 := Aside0.mk hy179
      clear hy179
      replace H := Option.bind_eq_some_iff.mp H
      obtain ⟨⟨t182, t185⟩, A100, H⟩ := H
      replace H : (if 0 < 256 then (if (rd t152 0) = 0 then (if 1 < 256 then (if (rd t152 1) = 1996959894 then (if 128 < 256 then (if (rd t152 128) = 3988292384 then ((hylit100002.f).bind fun t186 => ((crc_Sum.f k t152 (([t186] : List (List Int)))).bind fun t192 => (if t192 = 3421780262 then ((crc_Sum.f k t152 ([] : List (List Int))).bind fun t193 => (if t193 = 0 then (if (strOfNums t163).toList = ([49, 50, 51, 52, 53, 54, 55, 56, 57, 38, 57, 244, 203] : List UInt8) then (if (strOfNums t166).toList = ([49, 50, 51, 52, 53, 54, 55, 56, 57] : List UInt8) then (if t169 = true then (if t178 = true then (none) else (if (t182.length : Int) = 0 then (some t185) else (none))) else (none)) else (none)) else (none)) else (none))) else (none)))) else (none)) else (none)) else (none)) else (none)) else (none)) else (none)) = some r := H
      have A10 := Aside0.mk A100
      clear A100
      by_cases c11 : 0 < 256
      · rw [if_pos c11] at H
        have c11b0 : decide (0 < 256) = true := decide_eq_true c11
        clear c11
        by_cases c12 : (rd t152 0) = 0
        · rw [if_pos c12] at H
          have c12b0 : ((rd t152 0) == 0) = true := beq_iff_eq.mpr c12
          have c12b1 : ((rd t152 0) != 0) = false := bne_eq_false_iff_eq.mpr c12
          clear c12
          by_cases c13 : 1 < 256
          · rw [if_pos c13] at H
            have c13b0 : decide (1 < 256) = true := decide_eq_true c13
            clear c13
            by_cases c14 : (rd t152 1) = 1996959894
            · rw [if_pos c14] at H
              have c14b0 : ((rd t152 1) == 1996959894) = true := beq_iff_eq.mpr c14
              have c14b1 : ((rd t152 1) != 1996959894) = false := bne_eq_false_iff_eq.mpr c14
              clear c14
              by_cases c15 : 128 < 256
              · rw [if_pos c15] at H
                have c15b0 : decide (128 < 256) = true := decide_eq_true c15
                clear c15
                by_cases c16 : (rd t152 128) = 3988292384
                · rw [if_pos c16] at H
                  have c16b0 : ((rd t152 128) == 3988292384) = true := beq_iff_eq.mpr c16
                  have c16b1 : ((rd t152 128) != 3988292384) = false := bne_eq_false_iff_eq.mpr c16
                  clear c16
                  replace H := Option.bind_eq_some_iff.mp H
                  obtain ⟨t186, A170, H⟩ := H
                  replace H : ((crc_Sum.f k t152 (([t186] : List (List Int)))).bind fun t192 => (if t192 = 3421780262 then ((crc_Sum.f k t152 ([] : List (List Int))).bind fun t193 => (if t193 = 0 then (if (strOfNums t163).toList = ([49, 50, 51, 52, 53, 54, 55, 56, 57, 38, 57, 244, 203] : List UInt8) then (if (strOfNums t166).toList = ([49, 50, 51, 52, 53, 54, 55, 56, 57] : List UInt8) then (if t169 = true then (if t178 = true then (none) else (if (t182.length : Int) = 0 then (some t185) else (none))) else (none)) else (none)) else (none)) else (none))) else (none))) = some r := H
                  have A17 := Aside0.mk A170
                  clear A170
                  obtain ⟨y189, hy189⟩ : ∃ y_ : List (List Int), y_ = (([t186] : List (List Int))) := ⟨_, rfl⟩
                  replace H : ((crc_Sum.f k t152 y189).bind fun t192 => (if t192 = 3421780262 then ((crc_Sum.f k t152 ([] : List (List Int))).bind fun t193 => (if t193 = 0 then (if (strOfNums t163).toList = ([49, 50, 51, 52, 53, 54, 55, 56, 57, 38, 57, 244, 203] : List UInt8) then (if (strOfNums t166).toList = ([49, 50, 51, 52, 53, 54, 55, 56, 57] : List UInt8) then (if t169 = true then (if t178 = true then (none) else (if (t182.length : Int) = 0 then (some t185) else (none))) else (none)) else (none)) else (none)) else (none))) else (none))) = some r := by first | (rw [hy189]; with_reducible exact H) | (have H2_ := (Option.bind_some _ _).symm.trans H; rw [hy189]; with_reducible exact H2_) | (have H2_ := (Option.bind_some _ _).symm.trans H; with_reducible exact H2_) | with_reducible exact H | (rw [hy189]; exact H) | exact H
                  have Ny189 := Aside0.mk hy189
                  clear hy189
                  replace H := Option.bind_eq_some_iff.mp H
                  obtain ⟨t192, A180, H⟩ := H
                  replace H : (if t192 = 3421780262 then ((crc_Sum.f k t152 ([] : List (List Int))).bind fun t193 => (if t193 = 0 then (if (strOfNums t163).toList = ([49, 50, 51, 52, 53, 54, 55, 56, 57, 38, 57, 244, 203] : List UInt8) then (if (strOfNums t166).toList = ([49, 50, 51, 52, 53, 54, 55, 56, 57] : List UInt8) then (if t169 = true then (if t178 = true then (none) else (if (t182.length : Int) = 0 then (some t185) else (none))) else (none)) else (none)) else (none)) else (none))) else (none)) = some r := H
                  have A18 := Aside0.mk A180
                  clear A180
                  by_cases c19 : t192 = 3421780262
                  · rw [if_pos c19] at H
                    have c19b0 : (t192 == 3421780262) = true := beq_iff_eq.mpr c19
                    have c19b1 : (t192 != 3421780262) = false := bne_eq_false_iff_eq.mpr c19
                    clear c19
                    replace H := Option.bind_eq_some_iff.mp H
                    obtain ⟨t193, A200, H⟩ := H
                    replace H : (if t193 = 0 then (if (strOfNums t163).toList = ([49, 50, 51, 52, 53, 54, 55, 56, 57, 38, 57, 244, 203] : List UInt8) then (if (strOfNums t166).toList = ([49, 50, 51, 52, 53, 54, 55, 56, 57] : List UInt8) then (if t169 = true then (if t178 = true then (none) else (if (t182.length : Int) = 0 then (some t185) else (none))) else (none)) else (none)) else (none)) else (none)) = some r := H
                    have A20 := Aside0.mk A200
                    clear A200
                    by_cases c21 : t193 = 0
                    · rw [if_pos c21] at H
                      have c21b0 : (t193 == 0) = true := beq_iff_eq.mpr c21
                      have c21b1 : (t193 != 0) = false := bne_eq_false_iff_eq.mpr c21
                      clear c21
                      by_cases c22 : (strOfNums t163).toList = ([49, 50, 51, 52, 53, 54, 55, 56, 57, 38, 57, 244, 203] : List UInt8)
                      · rw [if_pos c22] at H
                        have c22b0 : ((strOfNums t163).toList == ([49, 50, 51, 52, 53, 54, 55, 56, 57, 38, 57, 244, 203] : List UInt8)) = true := beq_iff_eq.mpr c22
                        have c22b1 : ((strOfNums t163).toList != ([49, 50, 51, 52, 53, 54, 55, 56, 57, 38, 57, 244, 203] : List UInt8)) = false := bne_eq_false_iff_eq.mpr c22
                        clear c22
                        by_cases c23 : (strOfNums t166).toList = ([49, 50, 51, 52, 53, 54, 55, 56, 57] : List UInt8)
                        · rw [if_pos c23] at H
                          have c23b0 : ((strOfNums t166).toList == ([49, 50, 51, 52, 53, 54, 55, 56, 57] : List UInt8)) = true := beq_iff_eq.mpr c23
                          have c23b1 : ((strOfNums t166).toList != ([49, 50, 51, 52, 53, 54, 55, 56, 57] : List UInt8)) = false := bne_eq_false_iff_eq.mpr c23
                          clear c23
                          by_cases c24 : t169 = true
                          · subst c24
                            have H1 : (if t178 = true then (none) else (if (t182.length : Int) = 0 then (some t185) else (none))) = some r := by rw [if_pos rfl] at H; exact H
                            clear H
                            have H := H1
                            clear H1
                            by_cases c25 : t178 = true
                            · subst c25
                              have H1 : (none) = some r := by rw [if_pos rfl] at H; exact H
                              clear H
                              have H := H1
                              clear H1
                              exact absurd H (by simp)
                            · replace c25 := Bool.eq_false_iff.mpr c25
                              subst c25
                              have H1 : (if (t182.length : Int) = 0 then (some t185) else (none)) = some r := by rw [if_neg (show ¬ (false = true) by decide)] at H; exact H
                              clear H
                              have H := H1
                              clear H1
                              by_cases c26 : (t182.length : Int) = 0
                              · rw [if_pos c26] at H
                                have c26b0 : ((t182.length : Int) == 0) = true := beq_iff_eq.mpr c26
                                have c26b1 : ((t182.length : Int) != 0) = false := bne_eq_false_iff_eq.mpr c26
                                clear c26
                                obtain rfl := Option.some.inj H
                                go_enter Try.func8, Try.ntmps8
                                try go_wp2_with (first | ((with_reducible refine gate_load24 (x := .tmp _) rfl ?_); (try (refine gate_guard (by rfl) ?_; dsimp only)); refine tab_load rfl rfl rfl (by (with_reducible repeat (first | refine blk_drewN ?_ _ | refine blk_drew ?_ | refine blk_alloc ?_ _)); exact Aside0.out (by assumption)) ?_) | ((with_reducible refine gate_load22 (x := .tmp _) rfl ?_); (try (refine gate_guard (by rfl) ?_; dsimp only)); refine tab_elem _ rfl rfl rfl (by (with_reducible repeat (first | refine blk_drewN ?_ _ | refine blk_drew ?_ | refine blk_alloc ?_ _)); exact Aside0.out (by assumption)) (of_decide_eq_true (by first | (with_reducible assumption) | assumption)) (of_decide_eq_true (by first | (with_reducible assumption) | assumption)) ?_) | ((with_reducible refine gate_load22 (x := .tmp _) rfl ?_); (try (refine gate_guard (by rfl) ?_; dsimp only)); refine tab_elem 0 rfl rfl rfl (by (with_reducible repeat (first | refine blk_drewN ?_ _ | refine blk_drew ?_ | refine blk_alloc ?_ _)); exact Aside0.out (by assumption)) (by decide) (by decide) ?_) | ((with_reducible refine gate_load22 (x := .tmp _) rfl ?_); (try (refine gate_guard (by rfl) ?_; dsimp only)); refine tab_elem 1 rfl rfl rfl (by (with_reducible repeat (first | refine blk_drewN ?_ _ | refine blk_drew ?_ | refine blk_alloc ?_ _)); exact Aside0.out (by assumption)) (by decide) (by decide) ?_) | ((with_reducible refine gate_load22 (x := .tmp _) rfl ?_); (try (refine gate_guard (by rfl) ?_; dsimp only)); refine tab_elem 128 rfl rfl rfl (by (with_reducible repeat (first | refine blk_drewN ?_ _ | refine blk_drew ?_ | refine blk_alloc ?_ _)); exact Aside0.out (by assumption)) (by decide) (by decide) ?_) | ((with_reducible refine gate_store24 (x := .tmp _) (v := .tmp _) rfl ?_); refine tab_store rfl rfl rfl rfl rfl BK153.out ?_; intro ws_ hs_ hS_; have n0_ := Aside0.mk hs_; have n1_ := Aside0.mk (hS_ _ _ GE153.out HB.out); clear BK153; clear HB; have BK153 := n0_; have HB := n1_; clear n0_ n1_ hs_ hS_) | ((with_reducible refine gate_callee (f := 9) rfl ?_); refine goesL_ (some 9) rfl rfl Try.func9 (by kernel_rfl) rfl #[.int .u32 3988292384] rfl (by (try simp only [List.map_toArray, List.map_cons, List.map_nil]); first | done | rfl | (simp only [List.length_drop, List.length_take]; rfl)) ?_; (with_reducible refine (crc_Table.calls 3988292384 t152 _ A1.out).mono ?_); rintro e w27 ⟨rfl, hb⟩; refine ⟨_, rfl, ?_⟩; have n0_ := Aside0.mk (below_step (by repeat (first | (with_reducible first | exact HB.out | apply below_alloc | apply pw_below_drewN | apply below_drew1) | exact HB.out)) hb); clear HB; have HB := n0_; clear n0_; (try clear hb); (try clear hb2); (try clear hk); (try clear hi)) | ((with_reducible refine gate_dst (N := 1) rfl ?_); (try (refine gate_guard (by rfl) ?_; dsimp only)); refine box_event ?hg (N := 1) ?hd (cs := (tabC ([] : List Int))) (t := 24) ?hr ?_; (case hd => rfl); (case hg => rfl); (case hr => first | exact tab_box_run rfl rfl | exact tab_alloc_run rfl); intro gb153 hg w28 hbox hb; have n0_ := Aside0.mk (below_step (by repeat (first | (with_reducible first | exact HB.out | apply below_alloc | apply pw_below_drewN | apply below_drew1) | exact HB.out)) hb); have n1_ := Aside0.mk (hbox); have n2_ := Aside0.mk ((by rw [hg]; exact (below_size (by repeat (first | (with_reducible first | exact HB.out | apply below_alloc | apply pw_below_drewN | apply below_drew1) | exact HB.out))) : w.heap.size ≤ gb153)); have n3_ := Aside0.mk ((by rw [hg]; exact (below_size (by repeat (first | (with_reducible first | exact HB.out | apply below_alloc | apply pw_below_drewN | apply below_drew1) | exact HB.out))) : w.heap.size ≤ gb153)); clear HB; have HB := n0_; have BK153 := n1_; have GW153 := n2_; have GE153 := n3_; clear n0_ n1_ n2_ n3_; clear hb hbox hg; have hfz29_0 := blk_frozen BK153.out 0) | ((with_reducible refine gate_dst (N := 12) rfl ?_); (try (refine gate_guard (by rfl) ?_; dsimp only)); refine lit_conv (by first | rfl | assumption) 28 5 (.tmp 11) rfl Try.underlying28 Try.underlying5 [49, 50, 51, 52] _ rfl _ rfl (by simp) rfl ?_; intro v155 w30 ho0 hb; rw [show ([49, 50, 51, 52] : List Int) = t154 from Option.some.inj A2.out] at ho0; have n0_ := Aside0.mk (Kd.V_lower (Kd.V_mono (ok' := fun k_ => k_ ≠ gb153) ho0 (fun k_ hk_ => (Kd.freshB (g := gb153) (o := .cells (tabC t152) 24 (0, 0)) (by (with_reducible repeat (first | refine blk_drewN ?_ _ | refine blk_drew ?_ | refine blk_alloc ?_ _)); exact BK153.out) k_ hk_))) (below_size (by repeat (first | (with_reducible first | exact HB.out | apply below_alloc | apply pw_below_drewN | apply below_drew1 | refine below_set ?_ GE153.out) | exact HB.out)))); have n1_ := Aside0.mk (blk_below (g := gb153) (o := .cells (tabC t152) 24 (0, 0)) (by (with_reducible repeat (first | refine blk_drewN ?_ _ | refine blk_drew ?_ | refine blk_alloc ?_ _)); exact BK153.out) hb); have n2_ := Aside0.mk (below_step (by repeat (first | (with_reducible first | exact HB.out | apply below_alloc | apply pw_below_drewN | apply below_drew1 | refine below_set ?_ GE153.out) | exact HB.out)) hb); clear BK153; clear HB; have HO156 := n0_; have BK153 := n1_; have HB := n2_; clear n0_ n1_ n2_; (try clear hb); (try clear hb2); (try clear hk); (try clear hi); (try clear ho0)) | ((with_reducible refine gate_dst (N := 14) rfl ?_); (try (refine gate_guard (by rfl) ?_; dsimp only)); refine lit_conv (by first | rfl | assumption) 28 5 (.tmp 13) rfl Try.underlying28 Try.underlying5 [53, 54, 55, 56, 57] _ rfl _ rfl (by simp) rfl ?_; intro v158 w31 ho0 hb; rw [show ([53, 54, 55, 56, 57] : List Int) = t157 from Option.some.inj A3.out] at ho0; have n0_ := Aside0.mk (Kd.V_below (by (with_reducible repeat (first | apply Kd.V_alloc | apply Kd.V_drewN | apply Kd.V_drew)); exact HO156.out) hb); have n1_ := Aside0.mk (Kd.V_lower (Kd.V_mono (ok' := fun k_ => k_ ≠ gb153) ho0 (fun k_ hk_ => (Kd.freshB (g := gb153) (o := .cells (tabC t152) 24 (0, 0)) (by (with_reducible repeat (first | refine blk_drewN ?_ _ | refine blk_drew ?_ | refine blk_alloc ?_ _)); exact BK153.out) k_ hk_))) (below_size (by repeat (first | (with_reducible first | exact HB.out | apply below_alloc | apply pw_below_drewN | apply below_drew1 | refine below_set ?_ GE153.out) | exact HB.out)))); have n2_ := Aside0.mk (blk_below (g := gb153) (o := .cells (tabC t152) 24 (0, 0)) (by (with_reducible repeat (first | refine blk_drewN ?_ _ | refine blk_drew ?_ | refine blk_alloc ?_ _)); exact BK153.out) hb); have n3_ := Aside0.mk (below_step (by repeat (first | (with_reducible first | exact HB.out | apply below_alloc | apply pw_below_drewN | apply below_drew1 | refine below_set ?_ GE153.out) | exact HB.out)) hb); clear HO156; clear BK153; clear HB; have HO156 := n0_; have HO159 := n1_; have BK153 := n2_; have HB := n3_; clear n0_ n1_ n2_ n3_; (try clear hb); (try clear hb2); (try clear hk); (try clear hi); (try clear ho0); obtain ⟨Ao32, co32, eo32⟩ := Kd.V_slice HO156.out; subst eo32; obtain ⟨Ao33, co33, eo33⟩ := Kd.V_slice HO159.out; subst eo33) | ((with_reducible refine gate_dst (N := 15) rfl ?_); (try (refine gate_guard (by rfl) ?_; dsimp only)); refine Kd.N_lit (Kd.slice 5 (Kd.int .u8)) _ 28 ?hg (N' := 15) ?hd (xs := ([t154, [], t157] : List (List Int))) (inner := [.slice Ao32 t154.length co32, .slice none 0 0, .slice Ao33 t157.length co33]) (ok := (fun k_ => k_ ≠ gb153)) (okp := (fun k_ => k_ ≠ gb153)) ?hr ?hp (fun _ hk => hk) ((show ∀ k_, w31.heap.size ≤ k_ → (fun k_ => k_ ≠ gb153) k_ from fun k_ hk => Kd.freshB (g := gb153) (o := .cells (tabC t152) 24 (0, 0)) (by (with_reducible repeat (first | refine blk_drewN ?_ _ | refine blk_drew ?_ | refine blk_alloc ?_ _)); exact BK153.out) k_ hk) _ (Nat.le_refl _)) (Below.refl _ _) (Nat.le_refl _) (by simp) ?_; (case hd => rfl); (case hg => rfl); (case hr => first | (go_simp; done) | (go_simp; rfl)); (case hp => exact (Reps.one (show Kd.FK (Kd.slice 5 (Kd.int .u8)) _ _ t154 [.slice Ao32 t154.length co32] from (Kd.FK_slice_mk (Kd.V_reads' (Kd.V_mono (ok' := (fun k_ => k_ ≠ gb153)) (HO156.out) (fun k_ hk => hk))).2.1 (Kd.V_F (Kd.V_mono (ok' := (fun k_ => k_ ≠ gb153)) (HO156.out) (fun k_ hk => hk))))) (Reps.one (show Kd.FK (Kd.slice 5 (Kd.int .u8)) _ _ [] [.slice none 0 0] from (Kd.FK_slice_mk (Nat.le_refl _) (Kd.F_nil _ _ _))) (Reps.one (show Kd.FK (Kd.slice 5 (Kd.int .u8)) _ _ t157 [.slice Ao33 t157.length co33] from (Kd.FK_slice_mk (Kd.V_reads' (Kd.V_mono (ok' := (fun k_ => k_ ≠ gb153)) (HO159.out) (fun k_ hk => hk))).2.1 (Kd.V_F (Kd.V_mono (ok' := (fun k_ => k_ ≠ gb153)) (HO159.out) (fun k_ hk => hk))))) (Reps.none _ _))))); intro v161 w34 ho35 hb hg_ hnew_; clear hg_ hnew_; (first | rw [← Ny160.out] at ho35 | (simp only [Int.reduceToNat] at ho35; rw [← Ny160.out] at ho35)); have n0_ := Aside0.mk (Kd.V_elder' (by (with_reducible repeat (first | apply Kd.V_alloc | apply Kd.V_drewN | apply Kd.V_drew)); exact HO156.out) (Kd.N_base ho35) hb); have n1_ := Aside0.mk (Kd.V_elder' (by (with_reducible repeat (first | apply Kd.V_alloc | apply Kd.V_drewN | apply Kd.V_drew)); exact HO159.out) (Kd.N_base ho35) hb); have n2_ := Aside0.mk (Kd.N_lower ho35 (below_size (by repeat (first | (with_reducible first | exact HB.out | apply below_alloc | apply pw_below_drewN | apply below_drew1 | refine below_set ?_ GE153.out) | exact HB.out)))); have n3_ := Aside0.mk (blk_below (g := gb153) (o := .cells (tabC t152) 24 (0, 0)) (by (with_reducible repeat (first | refine blk_drewN ?_ _ | refine blk_drew ?_ | refine blk_alloc ?_ _)); exact BK153.out) hb); have n4_ := Aside0.mk (below_step (by repeat (first | (with_reducible first | exact HB.out | apply below_alloc | apply pw_below_drewN | apply below_drew1 | refine below_set ?_ GE153.out) | exact HB.out)) hb); clear HO156; clear HO159; clear BK153; clear HB; have HO156 := n0_; have HO159 := n1_; have HO162 := n2_; have BK153 := n3_; have HB := n4_; clear n0_ n1_ n2_ n3_ n4_; clear hb ho35; obtain ⟨Ao36, co36, eo36⟩ := Kd.N_slice HO162.out; subst eo36) | ((with_reducible refine gate_callee (f := 14) rfl ?_); refine goesL_ (some 16) rfl rfl Try.func14 (by kernel_rfl) rfl #[.agg (tabC t152), .slice Ao36 y160.length co36] rfl (by (try simp only [List.map_toArray, List.map_cons, List.map_nil]); first | done | rfl | (simp only [List.length_drop, List.length_take]; rfl)) ?_; (with_reducible refine (crc_Seal.calls k t152 _ _ y160 t163 _ ?side1 ?side2 A4.out).mono ?_); (case side1 => repeat (first | exact (Kd.N_reads' HO162.out).2.2 | (with_reducible refine Kd.C_alloc ?_ _) | (with_reducible refine Kd.C_drewN ?_ _) | (with_reducible refine Kd.C_drew ?_))); (case side2 => exact (Kd.N_reads' HO162.out).2.1); rintro e w37 ⟨v164, rfl, ho0, hb⟩; refine ⟨_, rfl, ?_⟩; have n0_ := Aside0.mk (Kd.V_elder' (by (with_reducible repeat (first | apply Kd.V_alloc | apply Kd.V_drewN | apply Kd.V_drew)); exact HO156.out) (Kd.R_base ho0) hb); have n1_ := Aside0.mk (Kd.V_elder' (by (with_reducible repeat (first | apply Kd.V_alloc | apply Kd.V_drewN | apply Kd.V_drew)); exact HO159.out) (Kd.R_base ho0) hb); have n2_ := Aside0.mk (Kd.N_elder' (by (with_reducible repeat (first | apply Kd.N_alloc | apply Kd.N_drewN | apply Kd.N_drew)); exact HO162.out) (Kd.R_base ho0) hb); have n3_ := Aside0.mk (Kd.R_lower ho0 (below_size (by repeat (first | (with_reducible first | exact HB.out | apply below_alloc | apply pw_below_drewN | apply below_drew1 | refine below_set ?_ GE153.out) | exact HB.out)))); have n4_ := Aside0.mk (blk_below (g := gb153) (o := .cells (tabC t152) 24 (0, 0)) (by (with_reducible repeat (first | refine blk_drewN ?_ _ | refine blk_drew ?_ | refine blk_alloc ?_ _)); exact BK153.out) hb); have n5_ := Aside0.mk (below_step (by repeat (first | (with_reducible first | exact HB.out | apply below_alloc | apply pw_below_drewN | apply below_drew1 | refine below_set ?_ GE153.out) | exact HB.out)) hb); clear HO156; clear HO159; clear HO162; clear BK153; clear HB; have HO156 := n0_; have HO159 := n1_; have HO162 := n2_; have HO165 := n3_; have BK153 := n4_; have HB := n5_; clear n0_ n1_ n2_ n3_ n4_ n5_; (try clear hb); (try clear hb2); (try clear hk); (try clear hi); (try clear ho0); have hfz38_0 := blk_frozen BK153.out 0; obtain ⟨Ao39, co39, eo39⟩ := Kd.R_slice HO165.out; subst eo39) | ((with_reducible refine gate_callee (f := 12) rfl ?_); refine goesL_ (some 20) rfl rfl Try.func12 (by kernel_rfl) rfl #[.agg (tabC t152), .slice Ao39 t163.length co39] rfl (by (try simp only [List.map_toArray, List.map_cons, List.map_nil]); first | done | rfl | (simp only [List.length_drop, List.length_take]; rfl)) ?_; (with_reducible refine (crc_Open.calls k t152 (fun k_ => some k_ = (.slice Ao39 t163.length co39 : Value).ownBlock) _ _ t163 t166 true _ ?side1 A5.out).mono ?_); (case side1 => exact Kd.R_V (Kd.R_tight rfl (Kd.R_types (Kd.R_apart' (HO165.out) (Kd.N_typed HO162.out) (by decide)) BK153.out (by decide)))); rintro e w40 ⟨v167, rfl, ho0, hb⟩; refine ⟨_, rfl, ?_⟩; have n0_ := Aside0.mk (Kd.V_elder' (by (with_reducible repeat (first | apply Kd.V_alloc | apply Kd.V_drewN | apply Kd.V_drew)); exact HO156.out) (Kd.R_base ho0) hb); have n1_ := Aside0.mk (Kd.V_elder' (by (with_reducible repeat (first | apply Kd.V_alloc | apply Kd.V_drewN | apply Kd.V_drew)); exact HO159.out) (Kd.R_base ho0) hb); have n2_ := Aside0.mk (Kd.N_elder' (by (with_reducible repeat (first | apply Kd.N_alloc | apply Kd.N_drewN | apply Kd.N_drew)); exact HO162.out) (Kd.R_base ho0) hb); have n3_ := Aside0.mk (Kd.R_elder' (by (with_reducible repeat (first | apply Kd.R_alloc | apply Kd.R_drewN | apply Kd.R_drew)); exact HO165.out) (Kd.R_base ho0) hb); have n4_ := Aside0.mk (Kd.R_lower (Kd.R_new' (Kd.R_mono (ok' := fun k_ => True) ho0 (fun _ hk_ => trivial)) (Kd.R_lt (by (with_reducible repeat (first | apply Kd.R_alloc | apply Kd.R_drewN | apply Kd.R_drew)); exact HO165.out))) (below_size (by repeat (first | (with_reducible first | exact HB.out | apply below_alloc | apply pw_below_drewN | apply below_drew1 | refine below_set ?_ GE153.out) | exact HB.out)))); have n5_ := Aside0.mk (blk_below (g := gb153) (o := .cells (tabC t152) 24 (0, 0)) (by (with_reducible repeat (first | refine blk_drewN ?_ _ | refine blk_drew ?_ | refine blk_alloc ?_ _)); exact BK153.out) hb); have n6_ := Aside0.mk (below_step (by repeat (first | (with_reducible first | exact HB.out | apply below_alloc | apply pw_below_drewN | apply below_drew1 | refine below_set ?_ GE153.out) | exact HB.out)) hb); clear HO156; clear HO159; clear HO162; clear HO165; clear BK153; clear HB; have HO156 := n0_; have HO159 := n1_; have HO162 := n2_; have HO165 := n3_; have HO168 := n4_; have BK153 := n5_; have HB := n6_; clear n0_ n1_ n2_ n3_ n4_ n5_ n6_; (try clear hb); (try clear hb2); (try clear hk); (try clear hi); (try clear ho0)))
                                have n0_ := Aside0.mk (Kd.V_drew HO156.out)
                                have n1_ := Aside0.mk (Kd.V_drew HO159.out)
                                have n2_ := Aside0.mk (Kd.N_drew HO162.out)
                                have n3_ := Aside0.mk (Kd.R_drew HO165.out)
                                have n4_ := Aside0.mk (Kd.R_drew HO168.out)
                                have n5_ := Aside0.mk (blk_drew BK153.out)
                                have n6_ := Aside0.mk (below_drew1 HB.out)
                                clear HO156
                                clear HO159
                                clear HO162
                                clear HO165
                                clear HO168
                                clear BK153
                                clear HB
                                have HO156 := n0_
                                have HO159 := n1_
                                have HO162 := n2_
                                have HO165 := n3_
                                have HO168 := n4_
                                have BK153 := n5_
                                have HB := n6_
                                clear n0_ n1_ n2_ n3_ n4_ n5_ n6_
                                have q42 : ((ji6) : Int) ≤ ((t163.length : Int) : Int) := of_decide_eq_true (by first | (with_reducible assumption) | assumption)
                                obtain ⟨i042, hi042, _, hsz42, _⟩ := info_parts info5
                                have hroom42 : t163.length ≤ co39 := (Kd.R_reads' HO165.out).2.1
                                have hC42 : Kd.F (Kd.int .u8) _ _ Ao39 t163.length t163 := (Kd.V_at (base := w.heap.size) (Kd.R_V (Kd.R_types (Kd.R_apart' (HO165.out) (Kd.N_typed HO162.out) (by decide)) BK153.out (by decide)))).2.2
                                have hcut42 := cut_to (P := Try.prog) 28 5 .i64 Try.underlying28 hi042 Ao39 t163.length co39 (ji6) (of_decide_eq_true (by first | (with_reducible assumption) | assumption)) q42 hroom42
                                have hr42 := Kd.F_take (m := ((ji6) : Int).toNat) hC42 (by omega)
                                have hy42 : y170.length = ((ji6) : Int).toNat := (by rw [Ny170.out, List.length_take]; omega)
                                rw [← Ny170.out] at hr42
                                rw [← hy42] at hcut42
                                have HO174 := Aside0.mk (show Kd.V (Kd.int .u8) 5 _ w.heap.size _ (.slice Ao39 y170.length co39) y170 from Kd.V_mk (by omega) hr42)
                                have HC174 := Aside0.mk (show y170.length ≤ co39 from by omega)
                                clear hr42 hC42 hroom42 hi042 hsz42
                                have KY42 := Aside0.mk hy42
                                clear hy42
                                replace q42 := eq_true q42
                                refine start_ (n := 12) (S := fun w' => w'.heap[gb153]? = some (.cells (tabC t152) 24 (0, 0))) (ds := []) #[false, false, false, false, false, false, false, false, false, false, false, false] (by kernel_rfl) rfl rfl (BK153.out) (fun hHeld => ?_); refine with_tabW decklelaw02_small.tab4 decklelaw02_small.bits4 (fun HT_ HW_ => ?_)
                                generalize w40.drew = w41 at HO156 HO159 HO162 HO165 HO168 BK153 HB HO174 hHeld ⊢
                                refine pure_ (i := 1) (N := some 25) (v := ?_) (a' := ?_) #[false, true, false, false, false, false, false, false, false, false, false, false] rfl rfl (any_of HT_.out (by kernel_rfl)) (fun _ _ _ h => h) (Or.inl ⟨by rfl, ?_⟩) ?_ ?_
                                rotate_left
                                · intro w'
                                  go_simp
                                  with_reducible rfl
                                rotate_left
                                · simp only [Act.put, List.setIfInBounds_toArray, List.set_cons_zero, List.set_cons_succ, i64_w, i32_w]
                                  rfl
                                refine pure_ (i := 2) (N := some 26) (v := ?_) (a' := ?_) #[false, true, true, false, false, false, false, false, false, false, false, false] rfl rfl (any_of HT_.out (by kernel_rfl)) (fun _ _ _ h => h) (Or.inl ⟨by rfl, ?_⟩) ?_ ?_
                                rotate_left
                                · intro w'
                                  go_simp
                                  with_reducible rfl
                                rotate_left
                                · simp only [Act.put, List.setIfInBounds_toArray, List.set_cons_zero, List.set_cons_succ, i64_w, i32_w]
                                  rfl
                                refine pure_ (i := 3) (N := some 27) (v := ?_) (a' := ?_) #[false, true, true, true, false, false, false, false, false, false, false, false] rfl rfl (any_of HT_.out (by kernel_rfl)) (fun _ _ _ h => h) (Or.inl ⟨by rfl, ?_⟩) ?_ ?_
                                rotate_left
                                · intro w'
                                  go_simp
                                  with_reducible rfl
                                rotate_left
                                · simp only [Act.put, List.setIfInBounds_toArray, List.set_cons_zero, List.set_cons_succ, i64_w, i32_w]
                                  rfl
                                refine pure_ (i := 4) (N := some 28) (v := ?_) (a' := ?_) #[false, true, true, true, true, false, false, false, false, false, false, false] rfl rfl (any_of HT_.out (by kernel_rfl)) (fun _ _ _ h => h) (Or.inl ⟨by rfl, ?_⟩) ?_ ?_
                                rotate_left
                                · intro w'
                                  go_simp
                                  with_reducible rfl
                                rotate_left
                                · simp only [Act.put, List.setIfInBounds_toArray, List.set_cons_zero, List.set_cons_succ, i64_w, i32_w]
                                  rfl
                                refine pure_ (i := 5) (N := some 29) (v := ?_) (a' := ?_) #[false, true, true, true, true, true, false, false, false, false, false, false] rfl rfl (any_of HT_.out (by kernel_rfl)) (fun _ _ _ h => h) (Or.inl ⟨by rfl, ?_⟩) ?_ ?_
                                rotate_left
                                · intro w'
                                  go_simp
                                  with_reducible rfl
                                rotate_left
                                · simp only [Act.put, List.setIfInBounds_toArray, List.set_cons_zero, List.set_cons_succ, i64_w, i32_w]
                                  rfl
                                refine take_ (i := 0) (N := some 24) (v := ?_) (a' := ?_) #[true, true, true, true, true, true, false, false, false, false, false, false] rfl rfl (take_ofW HT_.out HW_.out (by kernel_rfl)) (fun _ _ _ h => h) (Or.inl ⟨by rfl, ?_⟩) hHeld ?_ ?_
                                rotate_left
                                · intro w' s0
                                  (first | (rw [tab_load_run (x := .tmp 1) rfl rfl (by assumption)]) | (go_simp; with_reducible rfl))
                                rotate_left
                                · simp only [Act.put, List.setIfInBounds_toArray, List.set_cons_zero, List.set_cons_succ, i64_w, i32_w]
                                  rfl
                                refine one_ (i := 6) (N := some 30) #[true, true, true, true, true, true, true, false, false, false, false, false] rfl rfl (one_of HT_.out (by kernel_rfl)) (by decide) (fun K hK => ?_)
                                refine goes_ Try.func12 (by kernel_rfl) rfl #[.agg (tabC t152), .slice Ao39 y170.length co39] (by rfl) rfl rfl (by (try simp only [List.map_toArray, List.map_cons, List.map_nil]); first | done | rfl | (simp only [List.length_drop, List.length_take]; rfl)) ?_
                                with_reducible refine (crc_Open.calls k t152 (fun k_ => (((True ∧ some k_ ≠ (v167 : Value).ownBlock) ∧ some k_ ≠ (.slice Ao36 y160.length co36 : Value).ownBlock) ∧ k_ ≠ gb153)) _ _ y170 t175 false _ ?side1 A9.out).mono ?_
                                (case side1 => exact HO174.out)
                                rintro e w43 ⟨v176, rfl, ho0, hb⟩
                                refine ⟨_, rfl, ?_⟩
                                have n0_ := Aside0.mk (Kd.V_elder' (by (with_reducible repeat (first | apply Kd.V_alloc | apply Kd.V_drewN | apply Kd.V_drew)); exact HO156.out) (Kd.R_base ho0) hb)
                                have n1_ := Aside0.mk (Kd.V_elder' (by (with_reducible repeat (first | apply Kd.V_alloc | apply Kd.V_drewN | apply Kd.V_drew)); exact HO159.out) (Kd.R_base ho0) hb)
                                have n2_ := Aside0.mk (Kd.N_elder' (by (with_reducible repeat (first | apply Kd.N_alloc | apply Kd.N_drewN | apply Kd.N_drew)); exact HO162.out) (Kd.R_base ho0) hb)
                                have n3_ := Aside0.mk (Kd.R_elder' (by (with_reducible repeat (first | apply Kd.R_alloc | apply Kd.R_drewN | apply Kd.R_drew)); exact HO165.out) (Kd.R_base ho0) hb)
                                have n4_ := Aside0.mk (Kd.R_elder' (by (with_reducible repeat (first | apply Kd.R_alloc | apply Kd.R_drewN | apply Kd.R_drew)); exact HO168.out) (Kd.R_base ho0) hb)
                                have n5_ := Aside0.mk (Kd.V_elder' (by (with_reducible repeat (first | apply Kd.V_alloc | apply Kd.V_drewN | apply Kd.V_drew)); exact HO174.out) (Kd.R_base ho0) hb)
                                have n6_ := Aside0.mk (Kd.R_lower (Kd.R_new' (Kd.R_new' (Kd.R_mono (ok' := fun k_ => True) ho0 (fun _ hk_ => trivial)) (Kd.R_lt (by (with_reducible repeat (first | apply Kd.R_alloc | apply Kd.R_drewN | apply Kd.R_drew)); exact HO165.out))) (Kd.R_lt (by (with_reducible repeat (first | apply Kd.R_alloc | apply Kd.R_drewN | apply Kd.R_drew)); exact HO168.out))) (below_size (by repeat (first | (with_reducible first | exact HB.out | apply below_alloc | apply pw_below_drewN | apply below_drew1 | refine below_set ?_ GE153.out) | exact HB.out))))
                                have n7_ := Aside0.mk (blk_below (g := gb153) (o := .cells (tabC t152) 24 (0, 0)) (by (with_reducible repeat (first | refine blk_drewN ?_ _ | refine blk_drew ?_ | refine blk_alloc ?_ _)); exact BK153.out) hb)
                                have n8_ := Aside0.mk (below_step (by repeat (first | (with_reducible first | exact HB.out | apply below_alloc | apply pw_below_drewN | apply below_drew1 | refine below_set ?_ GE153.out) | exact HB.out)) hb)
                                clear HO156
                                clear HO159
                                clear HO162
                                clear HO165
                                clear HO168
                                clear HO174
                                clear BK153
                                clear HB
                                have HO156 := n0_
                                have HO159 := n1_
                                have HO162 := n2_
                                have HO165 := n3_
                                have HO168 := n4_
                                have HO174 := n5_
                                have HO177 := n6_
                                have BK153 := n7_
                                have HB := n8_
                                clear n0_ n1_ n2_ n3_ n4_ n5_ n6_ n7_ n8_
                                (try clear hb)
                                (try clear hb2)
                                (try clear hk)
                                (try clear hi)
                                (try clear ho0)
                                refine hK.out _ _ (BK153.out) (fun hHeld => ?_)
                                clear hK K
                                refine norm_ (a' := ?_) ?_ ?_
                                rotate_left
                                · show Act.put _ (some 30) _ = _
                                  simp only [Act.put, List.setIfInBounds_toArray, List.set_cons_zero, List.set_cons_succ, i64_w, i32_w]
                                  rfl
                                refine pure_ (i := 7) (N := some 23) (v := ?_) (a' := ?_) #[true, true, true, true, true, true, true, true, false, false, false, false] rfl rfl (any_of HT_.out (by kernel_rfl)) (fun _ _ _ h => h) (Or.inl ⟨by rfl, ?_⟩) ?_ ?_
                                rotate_left
                                · intro w'
                                  go_simp
                                  with_reducible rfl
                                rotate_left
                                · simp only [Act.put, List.setIfInBounds_toArray, List.set_cons_zero, List.set_cons_succ, i64_w, i32_w]
                                  rfl
                                refine pure_ (i := 8) (N := some 31) (v := ?_) (a' := ?_) #[true, true, true, true, true, true, true, true, true, false, false, false] rfl rfl (any_of HT_.out (by kernel_rfl)) (fun _ _ _ h => h) (Or.inl ⟨by rfl, ?_⟩) ?_ ?_
                                rotate_left
                                · intro w'
                                  go_simp
                                  with_reducible rfl
                                rotate_left
                                · simp only [Act.put, List.setIfInBounds_toArray, List.set_cons_zero, List.set_cons_succ, i64_w, i32_w]
                                  rfl
                                refine pure_ (i := 9) (N := some 32) (v := ?_) (a' := ?_) #[true, true, true, true, true, true, true, true, true, true, false, false] rfl rfl (any_of HT_.out (by kernel_rfl)) (fun _ _ _ h => h) (Or.inl ⟨by rfl, ?_⟩) ?_ ?_
                                rotate_left
                                · intro w'
                                  go_simp
                                  with_reducible rfl
                                rotate_left
                                · simp only [Act.put, List.setIfInBounds_toArray, List.set_cons_zero, List.set_cons_succ, i64_w, i32_w]
                                  rfl
                                refine pure_ (i := 10) (N := some 5) (v := ?_) (a' := ?_) #[true, true, true, true, true, true, true, true, true, true, true, false] rfl rfl (any_of HT_.out (by kernel_rfl)) (fun _ _ _ h => h) (Or.inl ⟨by rfl, ?_⟩) ?_ ?_
                                rotate_left
                                · intro w'
                                  go_simp
                                  with_reducible rfl
                                rotate_left
                                · simp only [Act.put, List.setIfInBounds_toArray, List.set_cons_zero, List.set_cons_succ, i64_w, i32_w]
                                  rfl
                                refine pure_ (i := 11) (N := some 6) (v := ?_) (a' := ?_) #[true, true, true, true, true, true, true, true, true, true, true, true] rfl rfl (any_of HT_.out (by kernel_rfl)) (fun _ _ _ h => h) (Or.inl ⟨by rfl, ?_⟩) ?_ ?_
                                rotate_left
                                · intro w'
                                  go_simp
                                  with_reducible rfl
                                rotate_left
                                · simp only [Act.put, List.setIfInBounds_toArray, List.set_cons_zero, List.set_cons_succ, i64_w, i32_w]
                                  rfl
                                refine done_ (done_of HT_.out (by kernel_rfl)) ?_
                                have hfz44_0 := blk_frozen BK153.out 0
                                try go_wp2_with (first | ((with_reducible refine gate_load24 (x := .tmp _) rfl ?_); (try (refine gate_guard (by rfl) ?_; dsimp only)); refine tab_load rfl rfl rfl (by (with_reducible repeat (first | refine blk_drewN ?_ _ | refine blk_drew ?_ | refine blk_alloc ?_ _)); exact Aside0.out (by assumption)) ?_) | ((with_reducible refine gate_load22 (x := .tmp _) rfl ?_); (try (refine gate_guard (by rfl) ?_; dsimp only)); refine tab_elem _ rfl rfl rfl (by (with_reducible repeat (first | refine blk_drewN ?_ _ | refine blk_drew ?_ | refine blk_alloc ?_ _)); exact Aside0.out (by assumption)) (of_decide_eq_true (by first | (with_reducible assumption) | assumption)) (of_decide_eq_true (by first | (with_reducible assumption) | assumption)) ?_) | ((with_reducible refine gate_load22 (x := .tmp _) rfl ?_); (try (refine gate_guard (by rfl) ?_; dsimp only)); refine tab_elem 0 rfl rfl rfl (by (with_reducible repeat (first | refine blk_drewN ?_ _ | refine blk_drew ?_ | refine blk_alloc ?_ _)); exact Aside0.out (by assumption)) (by decide) (by decide) ?_) | ((with_reducible refine gate_load22 (x := .tmp _) rfl ?_); (try (refine gate_guard (by rfl) ?_; dsimp only)); refine tab_elem 1 rfl rfl rfl (by (with_reducible repeat (first | refine blk_drewN ?_ _ | refine blk_drew ?_ | refine blk_alloc ?_ _)); exact Aside0.out (by assumption)) (by decide) (by decide) ?_) | ((with_reducible refine gate_load22 (x := .tmp _) rfl ?_); (try (refine gate_guard (by rfl) ?_; dsimp only)); refine tab_elem 128 rfl rfl rfl (by (with_reducible repeat (first | refine blk_drewN ?_ _ | refine blk_drew ?_ | refine blk_alloc ?_ _)); exact Aside0.out (by assumption)) (by decide) (by decide) ?_) | ((with_reducible refine gate_store24 (x := .tmp _) (v := .tmp _) rfl ?_); refine tab_store rfl rfl rfl rfl rfl BK153.out ?_; intro ws_ hs_ hS_; have n0_ := Aside0.mk hs_; have n1_ := Aside0.mk (hS_ _ _ GE153.out HB.out); clear BK153; clear HB; have BK153 := n0_; have HB := n1_; clear n0_ n1_ hs_ hS_) | ((with_reducible refine gate_dst (N := 35) rfl ?_); (try (refine gate_guard (by rfl) ?_; dsimp only)); refine Kd.R_lit (Kd.int .u8) _ 5 ?hg (N := 35) ?hd (xs := ([0, 0, 0, 0] : List Int)) (inner := [.int .u8 0, .int .u8 0, .int .u8 0, .int .u8 0]) (ok := fun _ => True) (okp := fun _ => True) ?hr ?hp (fun _ hk => hk) trivial (Below.refl _ _) (Nat.le_refl _) (by simp) ?_; (case hd => rfl); (case hg => rfl); (case hr => first | (go_simp; done) | (go_simp; rfl)); (case hp => exact (Reps.one (show Kd.M (Kd.int .u8) _ _ _ 0 [.int .u8 0] from rfl) (Reps.one (show Kd.M (Kd.int .u8) _ _ _ 0 [.int .u8 0] from rfl) (Reps.one (show Kd.M (Kd.int .u8) _ _ _ 0 [.int .u8 0] from rfl) (Reps.one (show Kd.M (Kd.int .u8) _ _ _ 0 [.int .u8 0] from rfl) (Reps.none _ _)))))); intro v180 w45 ho46 hb hg_ hnew_; clear hg_ hnew_; (first | rw [← Ny179.out] at ho46 | (simp only [Int.reduceToNat] at ho46; rw [← Ny179.out] at ho46)); have n0_ := Aside0.mk (Kd.V_elder' (by (with_reducible repeat (first | apply Kd.V_alloc | apply Kd.V_drewN | apply Kd.V_drew)); exact HO156.out) (Kd.R_base ho46) hb); have n1_ := Aside0.mk (Kd.V_elder' (by (with_reducible repeat (first | apply Kd.V_alloc | apply Kd.V_drewN | apply Kd.V_drew)); exact HO159.out) (Kd.R_base ho46) hb); have n2_ := Aside0.mk (Kd.N_elder' (by (with_reducible repeat (first | apply Kd.N_alloc | apply Kd.N_drewN | apply Kd.N_drew)); exact HO162.out) (Kd.R_base ho46) hb); have n3_ := Aside0.mk (Kd.R_elder' (by (with_reducible repeat (first | apply Kd.R_alloc | apply Kd.R_drewN | apply Kd.R_drew)); exact HO165.out) (Kd.R_base ho46) hb); have n4_ := Aside0.mk (Kd.R_elder' (by (with_reducible repeat (first | apply Kd.R_alloc | apply Kd.R_drewN | apply Kd.R_drew)); exact HO168.out) (Kd.R_base ho46) hb); have n5_ := Aside0.mk (Kd.V_elder' (by (with_reducible repeat (first | apply Kd.V_alloc | apply Kd.V_drewN | apply Kd.V_drew)); exact HO174.out) (Kd.R_base ho46) hb); have n6_ := Aside0.mk (Kd.R_elder' (by (with_reducible repeat (first | apply Kd.R_alloc | apply Kd.R_drewN | apply Kd.R_drew)); exact HO177.out) (Kd.R_base ho46) hb); have n7_ := Aside0.mk (Kd.R_lower (Kd.R_new' (Kd.R_new' (Kd.R_new' ho46 (Kd.R_lt (by (with_reducible repeat (first | apply Kd.R_alloc | apply Kd.R_drewN | apply Kd.R_drew)); exact HO165.out))) (Kd.R_lt (by (with_reducible repeat (first | apply Kd.R_alloc | apply Kd.R_drewN | apply Kd.R_drew)); exact HO168.out))) (Kd.R_lt (by (with_reducible repeat (first | apply Kd.R_alloc | apply Kd.R_drewN | apply Kd.R_drew)); exact HO177.out))) (below_size (by repeat (first | (with_reducible first | exact HB.out | apply below_alloc | apply pw_below_drewN | apply below_drew1 | refine below_set ?_ GE153.out) | exact HB.out)))); have n8_ := Aside0.mk (blk_below (g := gb153) (o := .cells (tabC t152) 24 (0, 0)) (by (with_reducible repeat (first | refine blk_drewN ?_ _ | refine blk_drew ?_ | refine blk_alloc ?_ _)); exact BK153.out) hb); have n9_ := Aside0.mk (below_step (by repeat (first | (with_reducible first | exact HB.out | apply below_alloc | apply pw_below_drewN | apply below_drew1 | refine below_set ?_ GE153.out) | exact HB.out)) hb); clear HO156; clear HO159; clear HO162; clear HO165; clear HO168; clear HO174; clear HO177; clear BK153; clear HB; have HO156 := n0_; have HO159 := n1_; have HO162 := n2_; have HO165 := n3_; have HO168 := n4_; have HO174 := n5_; have HO177 := n6_; have HO181 := n7_; have BK153 := n8_; have HB := n9_; clear n0_ n1_ n2_ n3_ n4_ n5_ n6_ n7_ n8_ n9_; clear hb ho46; obtain ⟨Ao47, co47, eo47⟩ := Kd.R_slice HO181.out; subst eo47) | ((with_reducible refine gate_callee (f := 12) rfl ?_); refine goesL_ (some 36) rfl rfl Try.func12 (by kernel_rfl) rfl #[.agg (tabC t152), .slice Ao47 y179.length co47] rfl (by (try simp only [List.map_toArray, List.map_cons, List.map_nil]); first | done | rfl | (simp only [List.length_drop, List.length_take]; rfl)) ?_; (with_reducible refine (crc_Open.calls k t152 (fun k_ => some k_ = (.slice Ao47 y179.length co47 : Value).ownBlock) _ _ y179 t182 t185 _ ?side1 A10.out).mono ?_); (case side1 => exact Kd.R_V (Kd.R_tight rfl (Kd.R_types (Kd.R_apart' (HO181.out) (Kd.N_typed HO162.out) (by decide)) BK153.out (by decide)))); rintro e w48 ⟨v183, rfl, ho0, hb⟩; refine ⟨_, rfl, ?_⟩; have n0_ := Aside0.mk (Kd.V_elder' (by (with_reducible repeat (first | apply Kd.V_alloc | apply Kd.V_drewN | apply Kd.V_drew)); exact HO156.out) (Kd.R_base ho0) hb); have n1_ := Aside0.mk (Kd.V_elder' (by (with_reducible repeat (first | apply Kd.V_alloc | apply Kd.V_drewN | apply Kd.V_drew)); exact HO159.out) (Kd.R_base ho0) hb); have n2_ := Aside0.mk (Kd.N_elder' (by (with_reducible repeat (first | apply Kd.N_alloc | apply Kd.N_drewN | apply Kd.N_drew)); exact HO162.out) (Kd.R_base ho0) hb); have n3_ := Aside0.mk (Kd.R_elder' (by (with_reducible repeat (first | apply Kd.R_alloc | apply Kd.R_drewN | apply Kd.R_drew)); exact HO165.out) (Kd.R_base ho0) hb); have n4_ := Aside0.mk (Kd.R_elder' (by (with_reducible repeat (first | apply Kd.R_alloc | apply Kd.R_drewN | apply Kd.R_drew)); exact HO168.out) (Kd.R_base ho0) hb); have n5_ := Aside0.mk (Kd.V_elder' (by (with_reducible repeat (first | apply Kd.V_alloc | apply Kd.V_drewN | apply Kd.V_drew)); exact HO174.out) (Kd.R_base ho0) hb); have n6_ := Aside0.mk (Kd.R_elder' (by (with_reducible repeat (first | apply Kd.R_alloc | apply Kd.R_drewN | apply Kd.R_drew)); exact HO177.out) (Kd.R_base ho0) hb); have n7_ := Aside0.mk (Kd.R_elder' (by (with_reducible repeat (first | apply Kd.R_alloc | apply Kd.R_drewN | apply Kd.R_drew)); exact HO181.out) (Kd.R_base ho0) hb); have n8_ := Aside0.mk (Kd.R_lower (Kd.R_new' (Kd.R_new' (Kd.R_new' (Kd.R_new' (Kd.R_mono (ok' := fun k_ => True) ho0 (fun _ hk_ => trivial)) (Kd.R_lt (by (with_reducible repeat (first | apply Kd.R_alloc | apply Kd.R_drewN | apply Kd.R_drew)); exact HO165.out))) (Kd.R_lt (by (with_reducible repeat (first | apply Kd.R_alloc | apply Kd.R_drewN | apply Kd.R_drew)); exact HO168.out))) (Kd.R_lt (by (with_reducible repeat (first | apply Kd.R_alloc | apply Kd.R_drewN | apply Kd.R_drew)); exact HO177.out))) (Kd.R_lt (by (with_reducible repeat (first | apply Kd.R_alloc | apply Kd.R_drewN | apply Kd.R_drew)); exact HO181.out))) (below_size (by repeat (first | (with_reducible first | exact HB.out | apply below_alloc | apply pw_below_drewN | apply below_drew1 | refine below_set ?_ GE153.out) | exact HB.out)))); have n9_ := Aside0.mk (blk_below (g := gb153) (o := .cells (tabC t152) 24 (0, 0)) (by (with_reducible repeat (first | refine blk_drewN ?_ _ | refine blk_drew ?_ | refine blk_alloc ?_ _)); exact BK153.out) hb); have n10_ := Aside0.mk (below_step (by repeat (first | (with_reducible first | exact HB.out | apply below_alloc | apply pw_below_drewN | apply below_drew1 | refine below_set ?_ GE153.out) | exact HB.out)) hb); clear HO156; clear HO159; clear HO162; clear HO165; clear HO168; clear HO174; clear HO177; clear HO181; clear BK153; clear HB; have HO156 := n0_; have HO159 := n1_; have HO162 := n2_; have HO165 := n3_; have HO168 := n4_; have HO174 := n5_; have HO177 := n6_; have HO181 := n7_; have HO184 := n8_; have BK153 := n9_; have HB := n10_; clear n0_ n1_ n2_ n3_ n4_ n5_ n6_ n7_ n8_ n9_ n10_; (try clear hb); (try clear hb2); (try clear hk); (try clear hi); (try clear ho0); have hfz49_0 := blk_frozen BK153.out 0) | ((with_reducible refine gate_dst (N := 55) rfl ?_); (try (refine gate_guard (by rfl) ?_; dsimp only)); refine lit_conv (by first | rfl | assumption) 28 5 (.tmp 54) rfl Try.underlying28 Try.underlying5 [49, 50, 51, 52, 53, 54, 55, 56, 57] _ rfl _ rfl (by simp) rfl ?_; intro v187 w50 ho0 hb; rw [show ([49, 50, 51, 52, 53, 54, 55, 56, 57] : List Int) = t186 from Option.some.inj A17.out] at ho0; have n0_ := Aside0.mk (Kd.V_below (by (with_reducible repeat (first | apply Kd.V_alloc | apply Kd.V_drewN | apply Kd.V_drew)); exact HO156.out) hb); have n1_ := Aside0.mk (Kd.V_below (by (with_reducible repeat (first | apply Kd.V_alloc | apply Kd.V_drewN | apply Kd.V_drew)); exact HO159.out) hb); have n2_ := Aside0.mk (Kd.N_below (by (with_reducible repeat (first | apply Kd.N_alloc | apply Kd.N_drewN | apply Kd.N_drew)); exact HO162.out) hb); have n3_ := Aside0.mk (Kd.R_below (by (with_reducible repeat (first | apply Kd.R_alloc | apply Kd.R_drewN | apply Kd.R_drew)); exact HO165.out) hb); have n4_ := Aside0.mk (Kd.R_below (by (with_reducible repeat (first | apply Kd.R_alloc | apply Kd.R_drewN | apply Kd.R_drew)); exact HO168.out) hb); have n5_ := Aside0.mk (Kd.V_below (by (with_reducible repeat (first | apply Kd.V_alloc | apply Kd.V_drewN | apply Kd.V_drew)); exact HO174.out) hb); have n6_ := Aside0.mk (Kd.R_below (by (with_reducible repeat (first | apply Kd.R_alloc | apply Kd.R_drewN | apply Kd.R_drew)); exact HO177.out) hb); have n7_ := Aside0.mk (Kd.R_below (by (with_reducible repeat (first | apply Kd.R_alloc | apply Kd.R_drewN | apply Kd.R_drew)); exact HO181.out) hb); have n8_ := Aside0.mk (Kd.R_below (by (with_reducible repeat (first | apply Kd.R_alloc | apply Kd.R_drewN | apply Kd.R_drew)); exact HO184.out) hb); have n9_ := Aside0.mk (Kd.V_lower (Kd.V_mono (ok' := fun k_ => some k_ ≠ (.slice Ao36 y160.length co36 : Value).ownBlock ∧ some k_ ≠ (.slice Ao39 t163.length co39 : Value).ownBlock ∧ some k_ ≠ (v167 : Value).ownBlock ∧ some k_ ≠ (v176 : Value).ownBlock ∧ some k_ ≠ (.slice Ao47 y179.length co47 : Value).ownBlock ∧ some k_ ≠ (v183 : Value).ownBlock ∧ k_ ≠ gb153) ho0 (fun k_ hk_ => ⟨(Kd.fresh' (Kd.N_lt (by (with_reducible repeat (first | apply Kd.N_alloc | apply Kd.N_drewN | apply Kd.N_drew)); exact HO162.out)) k_ hk_), (Kd.fresh' (Kd.R_lt (by (with_reducible repeat (first | apply Kd.R_alloc | apply Kd.R_drewN | apply Kd.R_drew)); exact HO165.out)) k_ hk_), (Kd.fresh' (Kd.R_lt (by (with_reducible repeat (first | apply Kd.R_alloc | apply Kd.R_drewN | apply Kd.R_drew)); exact HO168.out)) k_ hk_), (Kd.fresh' (Kd.R_lt (by (with_reducible repeat (first | apply Kd.R_alloc | apply Kd.R_drewN | apply Kd.R_drew)); exact HO177.out)) k_ hk_), (Kd.fresh' (Kd.R_lt (by (with_reducible repeat (first | apply Kd.R_alloc | apply Kd.R_drewN | apply Kd.R_drew)); exact HO181.out)) k_ hk_), (Kd.fresh' (Kd.R_lt (by (with_reducible repeat (first | apply Kd.R_alloc | apply Kd.R_drewN | apply Kd.R_drew)); exact HO184.out)) k_ hk_), (Kd.freshB (g := gb153) (o := .cells (tabC t152) 24 (0, 0)) (by (with_reducible repeat (first | refine blk_drewN ?_ _ | refine blk_drew ?_ | refine blk_alloc ?_ _)); exact BK153.out) k_ hk_)⟩)) (below_size (by repeat (first | (with_reducible first | exact HB.out | apply below_alloc | apply pw_below_drewN | apply below_drew1 | refine below_set ?_ GE153.out) | exact HB.out)))); have n10_ := Aside0.mk (blk_below (g := gb153) (o := .cells (tabC t152) 24 (0, 0)) (by (with_reducible repeat (first | refine blk_drewN ?_ _ | refine blk_drew ?_ | refine blk_alloc ?_ _)); exact BK153.out) hb); have n11_ := Aside0.mk (below_step (by repeat (first | (with_reducible first | exact HB.out | apply below_alloc | apply pw_below_drewN | apply below_drew1 | refine below_set ?_ GE153.out) | exact HB.out)) hb); clear HO156; clear HO159; clear HO162; clear HO165; clear HO168; clear HO174; clear HO177; clear HO181; clear HO184; clear BK153; clear HB; have HO156 := n0_; have HO159 := n1_; have HO162 := n2_; have HO165 := n3_; have HO168 := n4_; have HO174 := n5_; have HO177 := n6_; have HO181 := n7_; have HO184 := n8_; have HO188 := n9_; have BK153 := n10_; have HB := n11_; clear n0_ n1_ n2_ n3_ n4_ n5_ n6_ n7_ n8_ n9_ n10_ n11_; (try clear hb); (try clear hb2); (try clear hk); (try clear hi); (try clear ho0); obtain ⟨Ao51, co51, eo51⟩ := Kd.V_slice HO188.out; subst eo51) | ((with_reducible refine gate_dst (N := 56) rfl ?_); (try (refine gate_guard (by rfl) ?_; dsimp only)); refine Kd.N_lit (Kd.slice 5 (Kd.int .u8)) _ 28 ?hg (N' := 56) ?hd (xs := ([t186] : List (List Int))) (inner := [.slice Ao51 t186.length co51]) (ok := (fun k_ => some k_ ≠ (.slice Ao36 y160.length co36 : Value).ownBlock ∧ some k_ ≠ (.slice Ao39 t163.length co39 : Value).ownBlock ∧ some k_ ≠ (v167 : Value).ownBlock ∧ some k_ ≠ (v176 : Value).ownBlock ∧ some k_ ≠ (.slice Ao47 y179.length co47 : Value).ownBlock ∧ some k_ ≠ (v183 : Value).ownBlock ∧ k_ ≠ gb153)) (okp := (fun k_ => some k_ ≠ (.slice Ao36 y160.length co36 : Value).ownBlock ∧ some k_ ≠ (.slice Ao39 t163.length co39 : Value).ownBlock ∧ some k_ ≠ (v167 : Value).ownBlock ∧ some k_ ≠ (v176 : Value).ownBlock ∧ some k_ ≠ (.slice Ao47 y179.length co47 : Value).ownBlock ∧ some k_ ≠ (v183 : Value).ownBlock ∧ k_ ≠ gb153)) ?hr ?hp (fun _ hk => hk) ((show ∀ k_, w50.heap.size ≤ k_ → (fun k_ => some k_ ≠ (.slice Ao36 y160.length co36 : Value).ownBlock ∧ some k_ ≠ (.slice Ao39 t163.length co39 : Value).ownBlock ∧ some k_ ≠ (v167 : Value).ownBlock ∧ some k_ ≠ (v176 : Value).ownBlock ∧ some k_ ≠ (.slice Ao47 y179.length co47 : Value).ownBlock ∧ some k_ ≠ (v183 : Value).ownBlock ∧ k_ ≠ gb153) k_ from fun k_ hk => ⟨Kd.fresh' (Kd.N_lt (by (with_reducible repeat (first | apply Kd.N_alloc | apply Kd.N_drewN | apply Kd.N_drew)); exact HO162.out)) k_ hk, Kd.fresh' (Kd.R_lt (by (with_reducible repeat (first | apply Kd.R_alloc | apply Kd.R_drewN | apply Kd.R_drew)); exact HO165.out)) k_ hk, Kd.fresh' (Kd.R_lt (by (with_reducible repeat (first | apply Kd.R_alloc | apply Kd.R_drewN | apply Kd.R_drew)); exact HO168.out)) k_ hk, Kd.fresh' (Kd.R_lt (by (with_reducible repeat (first | apply Kd.R_alloc | apply Kd.R_drewN | apply Kd.R_drew)); exact HO177.out)) k_ hk, Kd.fresh' (Kd.R_lt (by (with_reducible repeat (first | apply Kd.R_alloc | apply Kd.R_drewN | apply Kd.R_drew)); exact HO181.out)) k_ hk, Kd.fresh' (Kd.R_lt (by (with_reducible repeat (first | apply Kd.R_alloc | apply Kd.R_drewN | apply Kd.R_drew)); exact HO184.out)) k_ hk, Kd.freshB (g := gb153) (o := .cells (tabC t152) 24 (0, 0)) (by (with_reducible repeat (first | refine blk_drewN ?_ _ | refine blk_drew ?_ | refine blk_alloc ?_ _)); exact BK153.out) k_ hk⟩) _ (Nat.le_refl _)) (Below.refl _ _) (Nat.le_refl _) (by simp) ?_; (case hd => rfl); (case hg => rfl); (case hr => first | (go_simp; done) | (go_simp; rfl)); (case hp => exact (Reps.one (show Kd.FK (Kd.slice 5 (Kd.int .u8)) _ _ t186 [.slice Ao51 t186.length co51] from (Kd.FK_slice_mk (Kd.V_reads' (Kd.V_mono (ok' := (fun k_ => some k_ ≠ (.slice Ao36 y160.length co36 : Value).ownBlock ∧ some k_ ≠ (.slice Ao39 t163.length co39 : Value).ownBlock ∧ some k_ ≠ (v167 : Value).ownBlock ∧ some k_ ≠ (v176 : Value).ownBlock ∧ some k_ ≠ (.slice Ao47 y179.length co47 : Value).ownBlock ∧ some k_ ≠ (v183 : Value).ownBlock ∧ k_ ≠ gb153)) (HO188.out) (fun k_ hk => ⟨hk.1, ⟨hk.2.1, ⟨hk.2.2.1, ⟨hk.2.2.2.1, ⟨hk.2.2.2.2.1, ⟨hk.2.2.2.2.2.1, hk.2.2.2.2.2.2⟩⟩⟩⟩⟩⟩))).2.1 (Kd.V_F (Kd.V_mono (ok' := (fun k_ => some k_ ≠ (.slice Ao36 y160.length co36 : Value).ownBlock ∧ some k_ ≠ (.slice Ao39 t163.length co39 : Value).ownBlock ∧ some k_ ≠ (v167 : Value).ownBlock ∧ some k_ ≠ (v176 : Value).ownBlock ∧ some k_ ≠ (.slice Ao47 y179.length co47 : Value).ownBlock ∧ some k_ ≠ (v183 : Value).ownBlock ∧ k_ ≠ gb153)) (HO188.out) (fun k_ hk => ⟨hk.1, ⟨hk.2.1, ⟨hk.2.2.1, ⟨hk.2.2.2.1, ⟨hk.2.2.2.2.1, ⟨hk.2.2.2.2.2.1, hk.2.2.2.2.2.2⟩⟩⟩⟩⟩⟩))))) (Reps.none _ _))); intro v190 w52 ho53 hb hg_ hnew_; clear hg_ hnew_; (first | rw [← Ny189.out] at ho53 | (simp only [Int.reduceToNat] at ho53; rw [← Ny189.out] at ho53)); have n0_ := Aside0.mk (Kd.V_elder' (by (with_reducible repeat (first | apply Kd.V_alloc | apply Kd.V_drewN | apply Kd.V_drew)); exact HO156.out) (Kd.N_base ho53) hb); have n1_ := Aside0.mk (Kd.V_elder' (by (with_reducible repeat (first | apply Kd.V_alloc | apply Kd.V_drewN | apply Kd.V_drew)); exact HO159.out) (Kd.N_base ho53) hb); have n2_ := Aside0.mk (Kd.N_elder' (by (with_reducible repeat (first | apply Kd.N_alloc | apply Kd.N_drewN | apply Kd.N_drew)); exact HO162.out) (Kd.N_base ho53) hb); have n3_ := Aside0.mk (Kd.R_below (by (with_reducible repeat (first | apply Kd.R_alloc | apply Kd.R_drewN | apply Kd.R_drew)); exact HO165.out) hb); have n4_ := Aside0.mk (Kd.R_below (by (with_reducible repeat (first | apply Kd.R_alloc | apply Kd.R_drewN | apply Kd.R_drew)); exact HO168.out) hb); have n5_ := Aside0.mk (Kd.V_elder' (by (with_reducible repeat (first | apply Kd.V_alloc | apply Kd.V_drewN | apply Kd.V_drew)); exact HO174.out) (Kd.N_base ho53) hb); have n6_ := Aside0.mk (Kd.R_below (by (with_reducible repeat (first | apply Kd.R_alloc | apply Kd.R_drewN | apply Kd.R_drew)); exact HO177.out) hb); have n7_ := Aside0.mk (Kd.R_below (by (with_reducible repeat (first | apply Kd.R_alloc | apply Kd.R_drewN | apply Kd.R_drew)); exact HO181.out) hb); have n8_ := Aside0.mk (Kd.R_below (by (with_reducible repeat (first | apply Kd.R_alloc | apply Kd.R_drewN | apply Kd.R_drew)); exact HO184.out) hb); have n9_ := Aside0.mk (Kd.V_elder' (by (with_reducible repeat (first | apply Kd.V_alloc | apply Kd.V_drewN | apply Kd.V_drew)); exact HO188.out) (Kd.N_base ho53) hb); have n10_ := Aside0.mk (Kd.N_lower ho53 (below_size (by repeat (first | (with_reducible first | exact HB.out | apply below_alloc | apply pw_below_drewN | apply below_drew1 | refine below_set ?_ GE153.out) | exact HB.out)))); have n11_ := Aside0.mk (blk_below (g := gb153) (o := .cells (tabC t152) 24 (0, 0)) (by (with_reducible repeat (first | refine blk_drewN ?_ _ | refine blk_drew ?_ | refine blk_alloc ?_ _)); exact BK153.out) hb); have n12_ := Aside0.mk (below_step (by repeat (first | (with_reducible first | exact HB.out | apply below_alloc | apply pw_below_drewN | apply below_drew1 | refine below_set ?_ GE153.out) | exact HB.out)) hb); clear HO156; clear HO159; clear HO162; clear HO165; clear HO168; clear HO174; clear HO177; clear HO181; clear HO184; clear HO188; clear BK153; clear HB; have HO156 := n0_; have HO159 := n1_; have HO162 := n2_; have HO165 := n3_; have HO168 := n4_; have HO174 := n5_; have HO177 := n6_; have HO181 := n7_; have HO184 := n8_; have HO188 := n9_; have HO191 := n10_; have BK153 := n11_; have HB := n12_; clear n0_ n1_ n2_ n3_ n4_ n5_ n6_ n7_ n8_ n9_ n10_ n11_ n12_; clear hb ho53; obtain ⟨Ao54, co54, eo54⟩ := Kd.N_slice HO191.out; subst eo54) | (go_at_call 15; (with_reducible refine (crc_Sum.calls k t152 _ _ y189 t192 _ ?side1 ?side2 A18.out).mono ?_); (case side1 => repeat (first | exact (Kd.N_reads' HO191.out).2.2 | (with_reducible refine Kd.C_alloc ?_ _) | (with_reducible refine Kd.C_drewN ?_ _) | (with_reducible refine Kd.C_drew ?_))); (case side2 => exact (Kd.N_reads' HO191.out).2.1); rintro e w55 ⟨rfl, hb⟩; have n0_ := Aside0.mk (Kd.V_below (by (with_reducible repeat (first | apply Kd.V_alloc | apply Kd.V_drewN | apply Kd.V_drew)); exact HO156.out) hb); have n1_ := Aside0.mk (Kd.V_below (by (with_reducible repeat (first | apply Kd.V_alloc | apply Kd.V_drewN | apply Kd.V_drew)); exact HO159.out) hb); have n2_ := Aside0.mk (Kd.N_below (by (with_reducible repeat (first | apply Kd.N_alloc | apply Kd.N_drewN | apply Kd.N_drew)); exact HO162.out) hb); have n3_ := Aside0.mk (Kd.R_below (by (with_reducible repeat (first | apply Kd.R_alloc | apply Kd.R_drewN | apply Kd.R_drew)); exact HO165.out) hb); have n4_ := Aside0.mk (Kd.R_below (by (with_reducible repeat (first | apply Kd.R_alloc | apply Kd.R_drewN | apply Kd.R_drew)); exact HO168.out) hb); have n5_ := Aside0.mk (Kd.V_below (by (with_reducible repeat (first | apply Kd.V_alloc | apply Kd.V_drewN | apply Kd.V_drew)); exact HO174.out) hb); have n6_ := Aside0.mk (Kd.R_below (by (with_reducible repeat (first | apply Kd.R_alloc | apply Kd.R_drewN | apply Kd.R_drew)); exact HO177.out) hb); have n7_ := Aside0.mk (Kd.R_below (by (with_reducible repeat (first | apply Kd.R_alloc | apply Kd.R_drewN | apply Kd.R_drew)); exact HO181.out) hb); have n8_ := Aside0.mk (Kd.R_below (by (with_reducible repeat (first | apply Kd.R_alloc | apply Kd.R_drewN | apply Kd.R_drew)); exact HO184.out) hb); have n9_ := Aside0.mk (Kd.V_below (by (with_reducible repeat (first | apply Kd.V_alloc | apply Kd.V_drewN | apply Kd.V_drew)); exact HO188.out) hb); have n10_ := Aside0.mk (Kd.N_below (by (with_reducible repeat (first | apply Kd.N_alloc | apply Kd.N_drewN | apply Kd.N_drew)); exact HO191.out) hb); have n11_ := Aside0.mk (blk_below (g := gb153) (o := .cells (tabC t152) 24 (0, 0)) (by (with_reducible repeat (first | refine blk_drewN ?_ _ | refine blk_drew ?_ | refine blk_alloc ?_ _)); exact BK153.out) hb); have n12_ := Aside0.mk (below_step (by repeat (first | (with_reducible first | exact HB.out | apply below_alloc | apply pw_below_drewN | apply below_drew1 | refine below_set ?_ GE153.out) | exact HB.out)) hb); clear HO156; clear HO159; clear HO162; clear HO165; clear HO168; clear HO174; clear HO177; clear HO181; clear HO184; clear HO188; clear HO191; clear BK153; clear HB; have HO156 := n0_; have HO159 := n1_; have HO162 := n2_; have HO165 := n3_; have HO168 := n4_; have HO174 := n5_; have HO177 := n6_; have HO181 := n7_; have HO184 := n8_; have HO188 := n9_; have HO191 := n10_; have BK153 := n11_; have HB := n12_; clear n0_ n1_ n2_ n3_ n4_ n5_ n6_ n7_ n8_ n9_ n10_ n11_ n12_; (try clear hb); (try clear hb2); (try clear hk); (try clear hi); have hfz56_0 := blk_frozen BK153.out 0) | (go_at_call 15; (refine (crc_Sum.calls k t152 _ _ ([] : List (List Int)) t193 _ ?side1 ?side2 A20.out).mono ?_); (case side1 => exact Kd.C_nil _ _); (case side2 => exact Nat.le_refl _); rintro e w57 ⟨rfl, hb⟩; have n0_ := Aside0.mk (Kd.V_below (by (with_reducible repeat (first | apply Kd.V_alloc | apply Kd.V_drewN | apply Kd.V_drew)); exact HO156.out) hb); have n1_ := Aside0.mk (Kd.V_below (by (with_reducible repeat (first | apply Kd.V_alloc | apply Kd.V_drewN | apply Kd.V_drew)); exact HO159.out) hb); have n2_ := Aside0.mk (Kd.N_below (by (with_reducible repeat (first | apply Kd.N_alloc | apply Kd.N_drewN | apply Kd.N_drew)); exact HO162.out) hb); have n3_ := Aside0.mk (Kd.R_below (by (with_reducible repeat (first | apply Kd.R_alloc | apply Kd.R_drewN | apply Kd.R_drew)); exact HO165.out) hb); have n4_ := Aside0.mk (Kd.R_below (by (with_reducible repeat (first | apply Kd.R_alloc | apply Kd.R_drewN | apply Kd.R_drew)); exact HO168.out) hb); have n5_ := Aside0.mk (Kd.V_below (by (with_reducible repeat (first | apply Kd.V_alloc | apply Kd.V_drewN | apply Kd.V_drew)); exact HO174.out) hb); have n6_ := Aside0.mk (Kd.R_below (by (with_reducible repeat (first | apply Kd.R_alloc | apply Kd.R_drewN | apply Kd.R_drew)); exact HO177.out) hb); have n7_ := Aside0.mk (Kd.R_below (by (with_reducible repeat (first | apply Kd.R_alloc | apply Kd.R_drewN | apply Kd.R_drew)); exact HO181.out) hb); have n8_ := Aside0.mk (Kd.R_below (by (with_reducible repeat (first | apply Kd.R_alloc | apply Kd.R_drewN | apply Kd.R_drew)); exact HO184.out) hb); have n9_ := Aside0.mk (Kd.V_below (by (with_reducible repeat (first | apply Kd.V_alloc | apply Kd.V_drewN | apply Kd.V_drew)); exact HO188.out) hb); have n10_ := Aside0.mk (Kd.N_below (by (with_reducible repeat (first | apply Kd.N_alloc | apply Kd.N_drewN | apply Kd.N_drew)); exact HO191.out) hb); have n11_ := Aside0.mk (blk_below (g := gb153) (o := .cells (tabC t152) 24 (0, 0)) (by (with_reducible repeat (first | refine blk_drewN ?_ _ | refine blk_drew ?_ | refine blk_alloc ?_ _)); exact BK153.out) hb); have n12_ := Aside0.mk (below_step (by repeat (first | (with_reducible first | exact HB.out | apply below_alloc | apply pw_below_drewN | apply below_drew1 | refine below_set ?_ GE153.out) | exact HB.out)) hb); clear HO156; clear HO159; clear HO162; clear HO165; clear HO168; clear HO174; clear HO177; clear HO181; clear HO184; clear HO188; clear HO191; clear BK153; clear HB; have HO156 := n0_; have HO159 := n1_; have HO162 := n2_; have HO165 := n3_; have HO168 := n4_; have HO174 := n5_; have HO177 := n6_; have HO181 := n7_; have HO184 := n8_; have HO188 := n9_; have HO191 := n10_; have BK153 := n11_; have HB := n12_; clear n0_ n1_ n2_ n3_ n4_ n5_ n6_ n7_ n8_ n9_ n10_ n11_ n12_; (try clear hb); (try clear hb2); (try clear hk); (try clear hi); have hcv58 := own_string (P := Try.prog) Try.underlying28 Try.underlying5 Try.underlying9 (Kd.own_of_R HO165.out); have hcv59 := own_string (P := Try.prog) Try.underlying28 Try.underlying5 Try.underlying9 (Kd.own_of_R HO168.out); obtain ⟨Ao60, co60, eo60⟩ := Kd.R_slice HO184.out; subst eo60))
                                go_ret
                                exact ⟨by first | rfl | (simp [errW_none, errW_some] <;> rfl) | (simp only [← hji6]; first | rfl | (simp [errW_none, errW_some] <;> rfl)) | (simp [*, errW_none, errW_some] <;> rfl), by repeat (first | (with_reducible first | exact HB.out | apply below_alloc | apply pw_below_drewN | apply below_drew1 | refine below_set ?_ GE153.out) | exact HB.out)⟩
                              · rw [if_neg c26] at H
                                exact absurd H (by simp)
                          · replace c24 := Bool.eq_false_iff.mpr c24
                            subst c24
                            have H1 : (none) = some r := by rw [if_neg (show ¬ (false = true) by decide)] at H; exact H
                            clear H
                            have H := H1
                            clear H1
                            exact absurd H (by simp)
                        · rw [if_neg c23] at H
                          exact absurd H (by simp)
                      · rw [if_neg c22] at H
                        exact absurd H (by simp)
                    · rw [if_neg c21] at H
                      exact absurd H (by simp)
                  · rw [if_neg c19] at H
                    exact absurd H (by simp)
                · rw [if_neg c16] at H
                  exact absurd H (by simp)
              · rw [if_neg c15] at H
                exact absurd H (by simp)
            · rw [if_neg c14] at H
              exact absurd H (by simp)
          · rw [if_neg c13] at H
            exact absurd H (by simp)
        · rw [if_neg c12] at H
          exact absurd H (by simp)
      · rw [if_neg c11] at H
        exact absurd H (by simp)
    · rw [if_neg c8] at H
      exact absurd H (by simp)
  · rw [if_neg c7] at H
    exact absurd H (by simp)

/-! ### deckleref02_Join: function 11 -/
def deckleref02_Join.l0 : Nat → List (List Int) → List Int → Int → Option (List Int)
  | 0, _, _, _ => none
  | k + 1, x0, x3, x4 => if x4 < (x0.length : Int) then (if 0 ≤ x4 then (if x3.length + (rd_L1 x0 x4).length < 140737488355328 then (deckleref02_Join.l0 k x0 (x3 ++ (rd_L1 x0 x4)) (wrap64 (x4 + 1))) else (none)) else (none)) else (some x3)
def deckleref02_Join.f (k : Nat) (l0 : List (List Int)) : Option (List Int) := deckleref02_Join.l0 k l0 ([] : List Int) 0
theorem deckleref02_Join.mono_l : ∀ k, (∀ y0 y1 y2, LeO (deckleref02_Join.l0 k y0 y1 y2) (deckleref02_Join.l0 (k + 1) y0 y1 y2))
  | 0 => fun _ _ _ r h => by simp [deckleref02_Join.l0] at h
  | k + 1 => by
    have ih0 := deckleref02_Join.mono_l k
    · intro y0 y1 y2
      unfold deckleref02_Join.l0
      repeat' first
      | (with_reducible exact ih0 _ _ _)
      | (with_reducible exact LeO.refl _)
      | (with_reducible exact LeO.none _)
      | (with_reducible refine LeO.ite ?_ ?_)
      | (with_reducible refine LeO.bind ?_ (fun _ => ?_))
      | exact ih0 _ _ _
      | exact LeO.none _
      | refine LeO.ite ?_ ?_
      | refine LeO.bind ?_ (fun _ => ?_)
theorem deckleref02_Join.mono : ∀ a0 k, LeO (deckleref02_Join.f k a0) (deckleref02_Join.f (k + 1) a0) := by
  intro a0 k
  have ih0 := deckleref02_Join.mono_l k
  unfold deckleref02_Join.f
  repeat' first
      | (with_reducible exact ih0 _ _ _)
      | (with_reducible exact LeO.refl _)
      | (with_reducible exact LeO.none _)
      | (with_reducible refine LeO.ite ?_ ?_)
      | (with_reducible refine LeO.bind ?_ (fun _ => ?_))
      | exact ih0 _ _ _
      | exact LeO.none _
      | refine LeO.ite ?_ ?_
      | refine LeO.bind ?_ (fun _ => ?_)
set_option maxHeartbeats 8000000 in
set_option maxRecDepth 100000 in
theorem deckleref02_Join.calls (k : Nat) (A0 : Option Addr) (c0 : Nat) (l0 : List (List Int)) (r : List Int) (w : World) (hr0 : Kd.C (Kd.slice 5 (Kd.int .u8)) w A0 l0.length l0) (hc0 : l0.length ≤ c0) (h : deckleref02_Join.f k l0 = some r) :
    Calls Try.prog 11 #[.slice A0 l0.length c0] w fun e w' => ∃ v0_ : Value, e = .returned (v0_) ∧ Kd.R (Kd.int .u8) 5 w' w.heap.size (fun _ => True) v0_ r ∧ Below w.heap.size w w' := by
  have HR0 := Aside0.mk hr0
  have HC0 := Aside0.mk hc0
  clear hr0 hc0
  have HB := Aside0.mk (Below.refl w.heap.size w)
  have H : (deckleref02_Join.l0 k l0 ([] : List Int) 0) = some r := h
  clear h
  have H' := Aside0.mk H
  clear H
  go_enter Try.func11, Try.ntmps11
  go_wp2
  go_loopg [3, 4] k (fun kq v3 v4 w' => ∃ (x3_1 : List Int) (x4_1 : Int), v4 = .int .i64 x4_1 ∧ Aside0 (deckleref02_Join.l0 kq l0 x3_1 x4_1 = some r) ∧ Aside0 (kq ≤ k) ∧ Aside0 (Kd.R (Kd.int .u8) 5 w' w.heap.size (fun _ => True) v3 x3_1) ∧ Aside0 (Below w.heap.size w w'))
  case atStart => exact ⟨(([] : List Int)), (0), (by first | rfl | (simp; done) | (simp [*]; done)), H', ⟨Nat.le_refl _⟩, ⟨by first | exact Kd.R_nil _ _ _ _ _ | exact Kd.N_nil _ _ _ _ _ | exact Kd.V_nil _ _ _ _ _ | exact Kd.Q_nil _ _ _ _ _ | exact Kd.S_nil _ _ _ _ _⟩, ⟨by repeat (first | (with_reducible first | exact HB.out | apply below_alloc | apply pw_below_drewN | apply below_drew1) | exact HB.out)⟩⟩
  case round =>
    clear H'
    try clear c1
    obtain ⟨x3_1, x4_1, rfl, HA, HK1, HO_3, HB⟩ := hrel
    cases gk with
    | zero => exact absurd HA.out (by simp [deckleref02_Join.l0])
    | succ k1 =>
      have H := HA.out
      clear HA
      simp only [deckleref02_Join.l0] at H
      by_cases c2 : x4_1 < (l0.length : Int)
      · rw [if_pos c2] at H
        have c2b0 : decide (x4_1 < (l0.length : Int)) = true := decide_eq_true c2
        clear c2
        by_cases c3 : 0 ≤ x4_1
        · rw [if_pos c3] at H
          have c3b0 : decide (0 ≤ x4_1) = true := decide_eq_true c3
          clear c3
          by_cases c4 : x3_1.length + (rd_L1 l0 x4_1).length < 140737488355328
          · rw [if_pos c4] at H
            have LMc4 := Aside0.mk c4
            clear c4
            obtain ⟨y195, hy195⟩ : ∃ y_ : List Int, y_ = (x3_1 ++ (rd_L1 l0 x4_1)) := ⟨_, rfl⟩
            replace H : (deckleref02_Join.l0 k1 l0 y195 (wrap64 (x4_1 + 1))) = some r := by first | (rw [hy195]; with_reducible exact H) | (have H2_ := (Option.bind_some _ _).symm.trans H; rw [hy195]; with_reducible exact H2_) | (have H2_ := (Option.bind_some _ _).symm.trans H; with_reducible exact H2_) | with_reducible exact H | (rw [hy195]; exact H) | exact H
            have Ny195 := Aside0.mk hy195
            clear hy195
            have H' := Aside0.mk H
            clear H
            have p194 : 0 ≤ (x4_1 : Int) := of_decide_eq_true (by first | (with_reducible assumption) | assumption)
            have q194 : x4_1 < (l0.length : Int) := of_decide_eq_true (by first | (with_reducible assumption) | assumption)
            obtain ⟨ad194, A194_0, c194_0, e194, hx194_0, hl194_0, hi194_0⟩ := at_L1 HR0.out x4_1 p194 q194
            cases e194
            replace hx194_0 := (HB.out.cell (World.block_lt_of_cell? w _ hx194_0)).trans hx194_0
            have HR194_0 := Aside0.mk hi194_0
            have HC194_0 := Aside0.mk hl194_0
            clear hi194_0 hl194_0
            replace p194 := eq_true p194
            replace q194 := eq_true q194
            go_wp2_with (first | ((with_reducible refine gate_builtin (b := .append) (xs := #[.tmp 11, .tmp 15]) rfl ?_); at_builtin; refine Kd.R_append_rows (Kd.int .u8) (w0 := w) w.heap.size rfl (.tmp 11) (.tmp 15) 28 5 (.int .u8 0) 1 rfl Try.underlying28 info5 rfl (by decide) (by omega) u3 x3_1 (rd_L1 l0 x4_1) _ _ _ (fun _ => True) (fun _ => False) rfl rfl ?aO ?aR (fun _ _ h => h) (fun _ h => h.elim) ?aF ?aB ?aS ?aL ?_; (case aR => repeat (first | exact (Kd.C_below HR194_0.out HB.out) | (with_reducible refine Kd.C_alloc ?_ _) | (with_reducible refine Kd.C_drewN ?_ _) | (with_reducible refine Kd.C_drew ?_))); (case aB => exact (by repeat (first | (with_reducible first | exact HB.out | apply below_alloc | apply pw_below_drewN | apply below_drew1) | exact HB.out))); (case aF => exact (fun _ _ => trivial)); (case aO => exact (by (with_reducible repeat (first | apply Kd.R_alloc | apply Kd.R_drewN | apply Kd.R_drew)); exact HO_3.out)); (case aS => exact (below_size (by repeat (first | (with_reducible first | exact HB.out | apply below_alloc | apply pw_below_drewN | apply below_drew1) | exact HB.out)))); (case aL => have := LMc4.out; omega); intro v196 w5 ho hb hg hat; rw [← Ny195.out] at ho; have n0_ := Aside0.mk (hb); have n1_ := Aside0.mk (ho); clear HB; clear HO_3; have HB := n0_; have HO197 := n1_; clear n0_ n1_; clear ho hb hg hat))
            go_roundg k1
            case measure => have := HK1.out; omega
            case rel => exact ⟨(y195), (wrap64 (x4_1 + 1)), (by first | rfl | (simp; done) | (simp [*]; done)), H', ⟨by have := HK1.out; omega⟩, ⟨by (with_reducible repeat (first | apply Kd.R_alloc | apply Kd.R_drewN | apply Kd.R_drew)); exact HO197.out⟩, ⟨by repeat (first | (with_reducible first | exact HB.out | apply below_alloc | apply pw_below_drewN | apply below_drew1) | exact HB.out)⟩⟩
          · rw [if_neg c4] at H
            exact absurd H (by simp)
        · rw [if_neg c3] at H
          exact absurd H (by simp)
      · rw [if_neg c2] at H
        have c2b0 : decide (x4_1 < (l0.length : Int)) = false := decide_eq_false c2
        clear c2
        obtain rfl := Option.some.inj H
        go_wp2
        go_ret
        exact ⟨_, by first | rfl | (simp [errW_none, errW_some] <;> rfl) | (simp [*, errW_none, errW_some] <;> rfl), by (with_reducible repeat (first | apply Kd.R_alloc | apply Kd.R_drewN | apply Kd.R_drew)); exact HO_3.out, by repeat (first | (with_reducible first | exact HB.out | apply below_alloc | apply pw_below_drewN | apply below_drew1) | exact HB.out)⟩

/-! ### deckleref02_More: function 18 -/
def deckleref02_More.l0 : Nat → Int → List Int → Int → (List Int) → Option (Int)
  | 0, _, _, _, _ => none
  | k + 1, x1, x2, x7, x199000 => if x7 < (x2.length : Int) then (if 0 ≤ x7 then (if 0 ≤ (Int.tmod (Go.bits .xor .u32 x1 ((rd x2 x7) % 4294967296)) 256) then (if (Int.tmod (Go.bits .xor .u32 x1 ((rd x2 x7) % 4294967296)) 256) < 256 then (deckleref02_More.l0 k (Go.bits .xor .u32 ((Int.tdiv x1 256) % 4294967296) (rd x199000 (Int.tmod (Go.bits .xor .u32 x1 ((rd x2 x7) % 4294967296)) 256))) x2 (wrap64 (x7 + 1)) x199000) else (none)) else (none)) else (none)) else (some (Go.bits .xor .u32 x1 4294967295))
def deckleref02_More.f (k : Nat) (a0_0 : (List Int)) (a1 : Int) (l2 : List Int) : Option (Int) := deckleref02_More.l0 k (Go.bits .xor .u32 a1 4294967295) l2 0 a0_0
theorem deckleref02_More.mono_l : ∀ k, (∀ y0 y1 y2 y3, LeO (deckleref02_More.l0 k y0 y1 y2 y3) (deckleref02_More.l0 (k + 1) y0 y1 y2 y3))
  | 0 => fun _ _ _ _ r h => by simp [deckleref02_More.l0] at h
  | k + 1 => by
    have ih0 := deckleref02_More.mono_l k
    · intro y0 y1 y2 y3
      unfold deckleref02_More.l0
      repeat' first
      | (with_reducible exact ih0 _ _ _ _)
      | (with_reducible exact LeO.refl _)
      | (with_reducible exact LeO.none _)
      | (with_reducible refine LeO.ite ?_ ?_)
      | (with_reducible refine LeO.bind ?_ (fun _ => ?_))
      | exact ih0 _ _ _ _
      | exact LeO.none _
      | refine LeO.ite ?_ ?_
      | refine LeO.bind ?_ (fun _ => ?_)
theorem deckleref02_More.mono : ∀ a0 a1 a2 k, LeO (deckleref02_More.f k a0 a1 a2) (deckleref02_More.f (k + 1) a0 a1 a2) := by
  intro a0 a1 a2 k
  have ih0 := deckleref02_More.mono_l k
  unfold deckleref02_More.f
  repeat' first
      | (with_reducible exact ih0 _ _ _ _)
      | (with_reducible exact LeO.refl _)
      | (with_reducible exact LeO.none _)
      | (with_reducible refine LeO.ite ?_ ?_)
      | (with_reducible refine LeO.bind ?_ (fun _ => ?_))
      | exact ih0 _ _ _ _
      | exact LeO.none _
      | refine LeO.ite ?_ ?_
      | refine LeO.bind ?_ (fun _ => ?_)
set_option maxHeartbeats 8000000 in
set_option maxRecDepth 100000 in
theorem deckleref02_More.calls (k : Nat) (a0_0 : (List Int)) (a1 : Int) (A2 : Option Addr) (c2 : Nat) (l2 : List Int) (r : Int) (w : World) (hr2 : Kd.C (Kd.int .u8) w A2 l2.length l2) (hc2 : l2.length ≤ c2) (h : deckleref02_More.f k a0_0 a1 l2 = some r) :
    Calls Try.prog 18 #[.agg (tabC a0_0), .int .u32 a1, .slice A2 l2.length c2] w fun e w' => e = .returned (.int .u32 r) ∧ Below w.heap.size w w' := by
  have hu24 := Try.underlying24
  have HR2 := Aside0.mk hr2
  have HC2 := Aside0.mk hc2
  clear hr2 hc2
  have HB := Aside0.mk (Below.refl w.heap.size w)
  have H : (deckleref02_More.l0 k (Go.bits .xor .u32 a1 4294967295) l2 0 a0_0) = some r := h
  clear h
  have H' := Aside0.mk H
  clear H
  go_enter Try.func18, Try.ntmps18
  go_wp2_with (first | ((with_reducible refine gate_load24 (x := .tmp _) rfl ?_); (try (refine gate_guard (by rfl) ?_; dsimp only)); refine tab_load rfl rfl rfl (by (with_reducible repeat (first | refine blk_drewN ?_ _ | refine blk_drew ?_ | refine blk_alloc ?_ _)); exact Aside0.out (by assumption)) ?_) | ((with_reducible refine gate_load22 (x := .tmp _) rfl ?_); (try (refine gate_guard (by rfl) ?_; dsimp only)); refine tab_elem _ rfl rfl rfl (by (with_reducible repeat (first | refine blk_drewN ?_ _ | refine blk_drew ?_ | refine blk_alloc ?_ _)); exact Aside0.out (by assumption)) (of_decide_eq_true (by first | (with_reducible assumption) | assumption)) (of_decide_eq_true (by first | (with_reducible assumption) | assumption)) ?_) | ((with_reducible refine gate_dst (N := 3) rfl ?_); refine box_event ?hg (N := 3) ?hd (cs := (tabC a0_0)) (t := 24) ?hr ?_; (case hd => rfl); (case hg => rfl); (case hr => first | exact tab_box_run rfl rfl | exact tab_alloc_run rfl); intro gb198 hg w4 hbox hb; have n0_ := Aside0.mk (below_step (by repeat (first | (with_reducible first | exact HB.out | apply below_alloc | apply pw_below_drewN | apply below_drew1) | exact HB.out)) hb); have n1_ := Aside0.mk (hbox); have n2_ := Aside0.mk ((by rw [hg]; exact (below_size (by repeat (first | (with_reducible first | exact HB.out | apply below_alloc | apply pw_below_drewN | apply below_drew1) | exact HB.out))) : w.heap.size ≤ gb198)); have n3_ := Aside0.mk ((by rw [hg]; exact (below_size (by repeat (first | (with_reducible first | exact HB.out | apply below_alloc | apply pw_below_drewN | apply below_drew1) | exact HB.out))) : w.heap.size ≤ gb198)); clear HB; have HB := n0_; have BK198 := n1_; have GW198 := n2_; have GE198 := n3_; clear n0_ n1_ n2_ n3_; clear hb hbox hg))
  go_loopg [1, 7] k (fun kq v1 v7 w' => ∃ (x1_1 : Int) (x7_1 : Int), v1 = .int .u32 x1_1 ∧ v7 = .int .i64 x7_1 ∧ Aside0 (deckleref02_More.l0 kq x1_1 l2 x7_1 a0_0 = some r) ∧ Aside0 (kq ≤ k) ∧ Aside0 (w'.heap[gb198]? = some (.cells (tabC a0_0) 24 (0, 0))) ∧ Aside0 (Below w.heap.size w w'))
  case atStart => exact ⟨(Go.bits .xor .u32 a1 4294967295), (0), (by first | rfl | (simp; done) | (simp [*]; done)), (by first | rfl | (simp; done) | (simp [*]; done)), H', ⟨Nat.le_refl _⟩, ⟨by (with_reducible repeat (first | refine blk_drewN ?_ _ | refine blk_drew ?_ | refine blk_alloc ?_ _)); exact BK198.out⟩, ⟨by repeat (first | (with_reducible first | exact HB.out | apply below_alloc | apply pw_below_drewN | apply below_drew1 | refine below_set ?_ GE198.out) | exact HB.out)⟩⟩
  case round =>
    clear H'
    try clear c1
    try clear c2
    try clear p2
    obtain ⟨x1_1, x7_1, rfl, rfl, HA, HK1, BK198, HB⟩ := hrel
    cases gk with
    | zero => exact absurd HA.out (by simp [deckleref02_More.l0])
    | succ k1 =>
      have H := HA.out
      clear HA
      simp only [deckleref02_More.l0] at H
      by_cases c5 : x7_1 < (l2.length : Int)
      · rw [if_pos c5] at H
        have c5b0 : decide (x7_1 < (l2.length : Int)) = true := decide_eq_true c5
        clear c5
        by_cases c6 : 0 ≤ x7_1
        · rw [if_pos c6] at H
          have c6b0 : decide (0 ≤ x7_1) = true := decide_eq_true c6
          clear c6
          obtain ⟨ji7, hji7⟩ : ∃ j_ : Int, (Int.tmod (Go.bits .xor .u32 x1_1 ((rd l2 x7_1) % 4294967296)) 256) = j_ := ⟨_, rfl⟩
          replace H : (if 0 ≤ (ji7) then (if (ji7) < 256 then (deckleref02_More.l0 k1 (Go.bits .xor .u32 ((Int.tdiv x1_1 256) % 4294967296) (rd a0_0 (ji7))) l2 (wrap64 (x7_1 + 1)) a0_0) else (none)) else (none)) = some r := by first | (rw [hji7] at H; exact H) | (simp only [hji7] at H ⊢; exact H)
          by_cases c8 : 0 ≤ (ji7)
          · rw [if_pos c8] at H
            have c8b0 : decide (0 ≤ (ji7)) = true := decide_eq_true c8
            have c8t := eq_true c8
            clear c8
            by_cases c9 : (ji7) < 256
            · rw [if_pos c9] at H
              have c9b0 : decide ((ji7) < 256) = true := decide_eq_true c9
              have c9t := eq_true c9
              clear c9
              have H' := Aside0.mk H
              clear H
              have p199 : 0 ≤ (x7_1 : Int) := of_decide_eq_true (by first | (with_reducible assumption) | assumption)
              have q199 : x7_1 < (l2.length : Int) := of_decide_eq_true (by first | (with_reducible assumption) | assumption)
              obtain ⟨ad199, e199, hx199_0⟩ := Kd.at_int HR2.out x7_1 p199 q199
              cases e199
              replace hx199_0 := (HB.out.cell (World.block_lt_of_cell? w _ hx199_0)).trans hx199_0
              replace p199 := eq_true p199
              replace q199 := eq_true q199
              have hfz10_0 := blk_frozen BK198.out 0
              go_wp2_with (first | ((with_reducible refine gate_load24 (x := .tmp _) rfl ?_); (try (refine gate_guard (by rfl) ?_; dsimp only)); refine tab_load rfl rfl rfl (by (with_reducible repeat (first | refine blk_drewN ?_ _ | refine blk_drew ?_ | refine blk_alloc ?_ _)); exact Aside0.out (by assumption)) ?_) | ((with_reducible refine gate_load22 (x := .tmp _) rfl ?_); (try (refine gate_guard (by rfl) ?_; dsimp only)); refine tab_elem _ rfl rfl rfl (by (with_reducible repeat (first | refine blk_drewN ?_ _ | refine blk_drew ?_ | refine blk_alloc ?_ _)); exact Aside0.out (by assumption)) (of_decide_eq_true (by first | (with_reducible assumption) | assumption)) (of_decide_eq_true (by first | (with_reducible assumption) | assumption)) ?_))
              go_roundg k1
              case measure => have := HK1.out; omega
              case rel => exact ⟨(Go.bits .xor .u32 ((Int.tdiv x1_1 256) % 4294967296) (rd a0_0 (ji7))), (wrap64 (x7_1 + 1)), (by first | rfl | (simp; done) | (simp only [← hji7] <;> (first | rfl | simp)) | (simp [*]; done)), (by first | rfl | (simp; done) | (simp [*]; done)), H', ⟨by have := HK1.out; omega⟩, ⟨by (with_reducible repeat (first | refine blk_drewN ?_ _ | refine blk_drew ?_ | refine blk_alloc ?_ _)); exact BK198.out⟩, ⟨by repeat (first | (with_reducible first | exact HB.out | apply below_alloc | apply pw_below_drewN | apply below_drew1 | refine below_set ?_ GE198.out) | exact HB.out)⟩⟩
            · rw [if_neg c9] at H
              exact absurd H (by simp)
          · rw [if_neg c8] at H
            exact absurd H (by simp)
        · rw [if_neg c6] at H
          exact absurd H (by simp)
      · rw [if_neg c5] at H
        have c5b0 : decide (x7_1 < (l2.length : Int)) = false := decide_eq_false c5
        clear c5
        obtain rfl := Option.some.inj H
        go_wp2_with (first | ((with_reducible refine gate_load24 (x := .tmp _) rfl ?_); (try (refine gate_guard (by rfl) ?_; dsimp only)); refine tab_load rfl rfl rfl (by (with_reducible repeat (first | refine blk_drewN ?_ _ | refine blk_drew ?_ | refine blk_alloc ?_ _)); exact Aside0.out (by assumption)) ?_) | ((with_reducible refine gate_load22 (x := .tmp _) rfl ?_); (try (refine gate_guard (by rfl) ?_; dsimp only)); refine tab_elem _ rfl rfl rfl (by (with_reducible repeat (first | refine blk_drewN ?_ _ | refine blk_drew ?_ | refine blk_alloc ?_ _)); exact Aside0.out (by assumption)) (of_decide_eq_true (by first | (with_reducible assumption) | assumption)) (of_decide_eq_true (by first | (with_reducible assumption) | assumption)) ?_))
        go_ret
        exact ⟨by first | rfl | (simp [errW_none, errW_some] <;> rfl) | (simp [*, errW_none, errW_some] <;> rfl), by repeat (first | (with_reducible first | exact HB.out | apply below_alloc | apply pw_below_drewN | apply below_drew1 | refine below_set ?_ GE198.out) | exact HB.out)⟩

/-! ### deckleref02_Sum: function 16 -/
def deckleref02_Sum.f (k : Nat) (a0_0 : (List Int)) (l1 : List Int) : Option (Int) := (deckleref02_More.f k a0_0 0 l1).bind fun t201 => (some t201)
theorem deckleref02_Sum.mono : ∀ a0 a1 k, LeO (deckleref02_Sum.f k a0 a1) (deckleref02_Sum.f (k + 1) a0 a1) := by
  intro a0 a1 k
  unfold deckleref02_Sum.f
  repeat' first
      | (with_reducible exact deckleref02_More.mono _ _ _ _)
      | (with_reducible exact LeO.refl _)
      | (with_reducible exact LeO.none _)
      | (with_reducible refine LeO.ite ?_ ?_)
      | (with_reducible refine LeO.bind ?_ (fun _ => ?_))
      | exact deckleref02_More.mono _ _ _ _
      | exact LeO.none _
      | refine LeO.ite ?_ ?_
      | refine LeO.bind ?_ (fun _ => ?_)
set_option maxHeartbeats 8000000 in
set_option maxRecDepth 100000 in
theorem deckleref02_Sum.calls (k : Nat) (a0_0 : (List Int)) (A1 : Option Addr) (c1 : Nat) (l1 : List Int) (r : Int) (w : World) (hr1 : Kd.C (Kd.int .u8) w A1 l1.length l1) (hc1 : l1.length ≤ c1) (h : deckleref02_Sum.f k a0_0 l1 = some r) :
    Calls Try.prog 16 #[.agg (tabC a0_0), .slice A1 l1.length c1] w fun e w' => e = .returned (.int .u32 r) ∧ Below w.heap.size w w' := by
  have hu24 := Try.underlying24
  have HR1 := Aside0.mk hr1
  have HC1 := Aside0.mk hc1
  clear hr1 hc1
  have HB := Aside0.mk (Below.refl w.heap.size w)
  have H : ((deckleref02_More.f k a0_0 0 l1).bind fun t201 => (some t201)) = some r := h
  clear h
  replace H := Option.bind_eq_some_iff.mp H
  obtain ⟨t201, A30, H⟩ := H
  replace H : (some t201) = some r := H
  have A3 := Aside0.mk A30
  clear A30
  obtain rfl := Option.some.inj H
  go_enter Try.func16, Try.ntmps16
  go_wp2_with (first | ((with_reducible refine gate_load24 (x := .tmp _) rfl ?_); (try (refine gate_guard (by rfl) ?_; dsimp only)); refine tab_load rfl rfl rfl (by (with_reducible repeat (first | refine blk_drewN ?_ _ | refine blk_drew ?_ | refine blk_alloc ?_ _)); exact Aside0.out (by assumption)) ?_) | ((with_reducible refine gate_load22 (x := .tmp _) rfl ?_); (try (refine gate_guard (by rfl) ?_; dsimp only)); refine tab_elem _ rfl rfl rfl (by (with_reducible repeat (first | refine blk_drewN ?_ _ | refine blk_drew ?_ | refine blk_alloc ?_ _)); exact Aside0.out (by assumption)) (of_decide_eq_true (by first | (with_reducible assumption) | assumption)) (of_decide_eq_true (by first | (with_reducible assumption) | assumption)) ?_) | ((with_reducible refine gate_dst (N := 2) rfl ?_); refine box_event ?hg (N := 2) ?hd (cs := (tabC a0_0)) (t := 24) ?hr ?_; (case hd => rfl); (case hg => rfl); (case hr => first | exact tab_box_run rfl rfl | exact tab_alloc_run rfl); intro gb200 hg w4 hbox hb; have n0_ := Aside0.mk (below_step (by repeat (first | (with_reducible first | exact HB.out | apply below_alloc | apply pw_below_drewN | apply below_drew1) | exact HB.out)) hb); have n1_ := Aside0.mk (hbox); have n2_ := Aside0.mk ((by rw [hg]; exact (below_size (by repeat (first | (with_reducible first | exact HB.out | apply below_alloc | apply pw_below_drewN | apply below_drew1) | exact HB.out))) : w.heap.size ≤ gb200)); have n3_ := Aside0.mk ((by rw [hg]; exact (below_size (by repeat (first | (with_reducible first | exact HB.out | apply below_alloc | apply pw_below_drewN | apply below_drew1) | exact HB.out))) : w.heap.size ≤ gb200)); clear HB; have HB := n0_; have BK200 := n1_; have GW200 := n2_; have GE200 := n3_; clear n0_ n1_ n2_ n3_; clear hb hbox hg; have hfz5_0 := blk_frozen BK200.out 0) | ((with_reducible refine gate_callee (f := 18) rfl ?_); refine goesL_ (some 7) rfl rfl Try.func18 (by kernel_rfl) rfl #[.agg (tabC a0_0), .int .u32 0, .slice A1 l1.length c1] rfl (by (try simp only [List.map_toArray, List.map_cons, List.map_nil]); first | done | rfl | (simp only [List.length_drop, List.length_take]; rfl)) ?_; (with_reducible refine (deckleref02_More.calls k a0_0 0 _ _ l1 t201 _ ?side1 ?side2 A3.out).mono ?_); (case side1 => repeat (first | exact (Kd.C_below HR1.out HB.out) | (with_reducible refine Kd.C_alloc ?_ _) | (with_reducible refine Kd.C_drewN ?_ _) | (with_reducible refine Kd.C_drew ?_))); (case side2 => exact HC1.out); rintro e w6 ⟨rfl, hb⟩; refine ⟨_, rfl, ?_⟩; have n0_ := Aside0.mk (blk_below (g := gb200) (o := .cells (tabC a0_0) 24 (0, 0)) (by (with_reducible repeat (first | refine blk_drewN ?_ _ | refine blk_drew ?_ | refine blk_alloc ?_ _)); exact BK200.out) hb); have n1_ := Aside0.mk (below_step (by repeat (first | (with_reducible first | exact HB.out | apply below_alloc | apply pw_below_drewN | apply below_drew1 | refine below_set ?_ GE200.out) | exact HB.out)) hb); clear BK200; clear HB; have BK200 := n0_; have HB := n1_; clear n0_ n1_; (try clear hb); (try clear hb2); (try clear hk); (try clear hi)))
  go_ret
  exact ⟨by first | rfl | (simp [errW_none, errW_some] <;> rfl) | (simp [*, errW_none, errW_some] <;> rfl), by repeat (first | (with_reducible first | exact HB.out | apply below_alloc | apply pw_below_drewN | apply below_drew1 | refine below_set ?_ GE200.out) | exact HB.out)⟩

/-! ### deckleref02_Seal: function 19 -/
def deckleref02_Seal.f (k : Nat) (a0_0 : (List Int)) (l1 : List Int) : Option (List Int) := (deckleref02_Sum.f k a0_0 l1).bind fun t203 => ((some (([] : List Int) : List Int)).bind fun y204 => (if y204.length + l1.length < 140737488355328 then ((some (y204 ++ l1 : List Int)).bind fun y207 => ((some (([(t203) % 256, ((Int.tdiv t203 256) % 4294967296) % 256, ((Int.tdiv t203 65536) % 4294967296) % 256, ((Int.tdiv t203 16777216) % 4294967296) % 256] : List Int) : List Int)).bind fun y210 => (if y207.length + y210.length < 140737488355328 then (some (y207 ++ y210)) else (none)))) else (none)))
theorem deckleref02_Seal.mono : ∀ a0 a1 k, LeO (deckleref02_Seal.f k a0 a1) (deckleref02_Seal.f (k + 1) a0 a1) := by
  intro a0 a1 k
  unfold deckleref02_Seal.f
  repeat' first
      | (with_reducible exact deckleref02_Sum.mono _ _ _)
      | (with_reducible exact LeO.refl _)
      | (with_reducible exact LeO.none _)
      | (with_reducible refine LeO.ite ?_ ?_)
      | (with_reducible refine LeO.bind ?_ (fun _ => ?_))
      | exact deckleref02_Sum.mono _ _ _
      | exact LeO.none _
      | refine LeO.ite ?_ ?_
      | refine LeO.bind ?_ (fun _ => ?_)
set_option maxHeartbeats 8000000 in
set_option maxRecDepth 100000 in
theorem deckleref02_Seal.calls (k : Nat) (a0_0 : (List Int)) (A1 : Option Addr) (c1 : Nat) (l1 : List Int) (r : List Int) (w : World) (hr1 : Kd.C (Kd.int .u8) w A1 l1.length l1) (hc1 : l1.length ≤ c1) (h : deckleref02_Seal.f k a0_0 l1 = some r) :
    Calls Try.prog 19 #[.agg (tabC a0_0), .slice A1 l1.length c1] w fun e w' => ∃ v0_ : Value, e = .returned (v0_) ∧ Kd.R (Kd.int .u8) 5 w' w.heap.size (fun _ => True) v0_ r ∧ Below w.heap.size w w' := by
  have hu24 := Try.underlying24
  have HR1 := Aside0.mk hr1
  have HC1 := Aside0.mk hc1
  clear hr1 hc1
  have HB := Aside0.mk (Below.refl w.heap.size w)
  have H : ((deckleref02_Sum.f k a0_0 l1).bind fun t203 => ((some (([] : List Int) : List Int)).bind fun y204 => (if y204.length + l1.length < 140737488355328 then ((some (y204 ++ l1 : List Int)).bind fun y207 => ((some (([(t203) % 256, ((Int.tdiv t203 256) % 4294967296) % 256, ((Int.tdiv t203 65536) % 4294967296) % 256, ((Int.tdiv t203 16777216) % 4294967296) % 256] : List Int) : List Int)).bind fun y210 => (if y207.length + y210.length < 140737488355328 then (some (y207 ++ y210)) else (none)))) else (none)))) = some r := h
  clear h
  replace H := Option.bind_eq_some_iff.mp H
  obtain ⟨t203, A30, H⟩ := H
  replace H : ((some (([] : List Int) : List Int)).bind fun y204 => (if y204.length + l1.length < 140737488355328 then ((some (y204 ++ l1 : List Int)).bind fun y207 => ((some (([(t203) % 256, ((Int.tdiv t203 256) % 4294967296) % 256, ((Int.tdiv t203 65536) % 4294967296) % 256, ((Int.tdiv t203 16777216) % 4294967296) % 256] : List Int) : List Int)).bind fun y210 => (if y207.length + y210.length < 140737488355328 then (some (y207 ++ y210)) else (none)))) else (none))) = some r := H
  have A3 := Aside0.mk A30
  clear A30
  obtain ⟨y204, hy204⟩ : ∃ y_ : List Int, y_ = (([] : List Int)) := ⟨_, rfl⟩
  replace H : (if y204.length + l1.length < 140737488355328 then ((some (y204 ++ l1 : List Int)).bind fun y207 => ((some (([(t203) % 256, ((Int.tdiv t203 256) % 4294967296) % 256, ((Int.tdiv t203 65536) % 4294967296) % 256, ((Int.tdiv t203 16777216) % 4294967296) % 256] : List Int) : List Int)).bind fun y210 => (if y207.length + y210.length < 140737488355328 then (some (y207 ++ y210)) else (none)))) else (none)) = some r := by first | (rw [hy204]; with_reducible exact H) | (have H2_ := (Option.bind_some _ _).symm.trans H; rw [hy204]; with_reducible exact H2_) | (have H2_ := (Option.bind_some _ _).symm.trans H; with_reducible exact H2_) | with_reducible exact H | (rw [hy204]; exact H) | exact H
  have Ny204 := Aside0.mk hy204
  clear hy204
  by_cases c4 : y204.length + l1.length < 140737488355328
  · rw [if_pos c4] at H
    have LMc4 := Aside0.mk c4
    clear c4
    obtain ⟨y207, hy207⟩ : ∃ y_ : List Int, y_ = (y204 ++ l1) := ⟨_, rfl⟩
    replace H : ((some (([(t203) % 256, ((Int.tdiv t203 256) % 4294967296) % 256, ((Int.tdiv t203 65536) % 4294967296) % 256, ((Int.tdiv t203 16777216) % 4294967296) % 256] : List Int) : List Int)).bind fun y210 => (if y207.length + y210.length < 140737488355328 then (some (y207 ++ y210)) else (none))) = some r := by first | (rw [hy207]; with_reducible exact H) | (have H2_ := (Option.bind_some _ _).symm.trans H; rw [hy207]; with_reducible exact H2_) | (have H2_ := (Option.bind_some _ _).symm.trans H; with_reducible exact H2_) | with_reducible exact H | (rw [hy207]; exact H) | exact H
    have Ny207 := Aside0.mk hy207
    clear hy207
    obtain ⟨y210, hy210⟩ : ∃ y_ : List Int, y_ = (([(t203) % 256, ((Int.tdiv t203 256) % 4294967296) % 256, ((Int.tdiv t203 65536) % 4294967296) % 256, ((Int.tdiv t203 16777216) % 4294967296) % 256] : List Int)) := ⟨_, rfl⟩
    replace H : (if y207.length + y210.length < 140737488355328 then (some (y207 ++ y210)) else (none)) = some r := by first | (rw [hy210]; with_reducible exact H) | (have H2_ := (Option.bind_some _ _).symm.trans H; rw [hy210]; with_reducible exact H2_) | (have H2_ := (Option.bind_some _ _).symm.trans H; with_reducible exact H2_) | with_reducible exact H | (rw [hy210]; exact H) | exact H
    have Ny210 := Aside0.mk hy210
    clear hy210
    by_cases c5 : y207.length + y210.length < 140737488355328
    · rw [if_pos c5] at H
      have LMc5 := Aside0.mk c5
      clear c5
      obtain ⟨y213, hy213⟩ : ∃ y_ : List Int, y_ = (y207 ++ y210) := ⟨_, rfl⟩
      replace H : (some y213) = some r := by first | (rw [hy213]; with_reducible exact H) | (have H2_ := (Option.bind_some _ _).symm.trans H; rw [hy213]; with_reducible exact H2_) | (have H2_ := (Option.bind_some _ _).symm.trans H; with_reducible exact H2_) | with_reducible exact H | (rw [hy213]; exact H) | exact H
      have Ny213 := Aside0.mk hy213
      clear hy213
      obtain rfl := Option.some.inj H
      go_enter Try.func19, Try.ntmps19
      go_wp2_with (first | ((with_reducible refine gate_load24 (x := .tmp _) rfl ?_); (try (refine gate_guard (by rfl) ?_; dsimp only)); refine tab_load rfl rfl rfl (by (with_reducible repeat (first | refine blk_drewN ?_ _ | refine blk_drew ?_ | refine blk_alloc ?_ _)); exact Aside0.out (by assumption)) ?_) | ((with_reducible refine gate_load22 (x := .tmp _) rfl ?_); (try (refine gate_guard (by rfl) ?_; dsimp only)); refine tab_elem _ rfl rfl rfl (by (with_reducible repeat (first | refine blk_drewN ?_ _ | refine blk_drew ?_ | refine blk_alloc ?_ _)); exact Aside0.out (by assumption)) (of_decide_eq_true (by first | (with_reducible assumption) | assumption)) (of_decide_eq_true (by first | (with_reducible assumption) | assumption)) ?_) | ((with_reducible refine gate_dst (N := 2) rfl ?_); refine box_event ?hg (N := 2) ?hd (cs := (tabC a0_0)) (t := 24) ?hr ?_; (case hd => rfl); (case hg => rfl); (case hr => first | exact tab_box_run rfl rfl | exact tab_alloc_run rfl); intro gb202 hg w6 hbox hb; have n0_ := Aside0.mk (below_step (by repeat (first | (with_reducible first | exact HB.out | apply below_alloc | apply pw_below_drewN | apply below_drew1) | exact HB.out)) hb); have n1_ := Aside0.mk (hbox); have n2_ := Aside0.mk ((by rw [hg]; exact (below_size (by repeat (first | (with_reducible first | exact HB.out | apply below_alloc | apply pw_below_drewN | apply below_drew1) | exact HB.out))) : w.heap.size ≤ gb202)); have n3_ := Aside0.mk ((by rw [hg]; exact (below_size (by repeat (first | (with_reducible first | exact HB.out | apply below_alloc | apply pw_below_drewN | apply below_drew1) | exact HB.out))) : w.heap.size ≤ gb202)); clear HB; have HB := n0_; have BK202 := n1_; have GW202 := n2_; have GE202 := n3_; clear n0_ n1_ n2_ n3_; clear hb hbox hg; have hfz7_0 := blk_frozen BK202.out 0) | ((with_reducible refine gate_callee (f := 16) rfl ?_); refine goesL_ (some 8) rfl rfl Try.func16 (by kernel_rfl) rfl #[.agg (tabC a0_0), .slice A1 l1.length c1] rfl (by (try simp only [List.map_toArray, List.map_cons, List.map_nil]); first | done | rfl | (simp only [List.length_drop, List.length_take]; rfl)) ?_; (with_reducible refine (deckleref02_Sum.calls k a0_0 _ _ l1 t203 _ ?side1 ?side2 A3.out).mono ?_); (case side1 => repeat (first | exact (Kd.C_below HR1.out HB.out) | (with_reducible refine Kd.C_alloc ?_ _) | (with_reducible refine Kd.C_drewN ?_ _) | (with_reducible refine Kd.C_drew ?_))); (case side2 => exact HC1.out); rintro e w8 ⟨rfl, hb⟩; refine ⟨_, rfl, ?_⟩; have n0_ := Aside0.mk (blk_below (g := gb202) (o := .cells (tabC a0_0) 24 (0, 0)) (by (with_reducible repeat (first | refine blk_drewN ?_ _ | refine blk_drew ?_ | refine blk_alloc ?_ _)); exact BK202.out) hb); have n1_ := Aside0.mk (below_step (by repeat (first | (with_reducible first | exact HB.out | apply below_alloc | apply pw_below_drewN | apply below_drew1 | refine below_set ?_ GE202.out) | exact HB.out)) hb); clear BK202; clear HB; have BK202 := n0_; have HB := n1_; clear n0_ n1_; (try clear hb); (try clear hb2); (try clear hk); (try clear hi)) | ((with_reducible refine gate_dst (N := 9) rfl ?_); refine Kd.R_lit (Kd.int .u8) _ 5 ?hg (N := 9) ?hd (xs := ([] : List Int)) (inner := []) (ok := fun _ => True) (okp := fun _ => True) ?hr ?hp (fun _ hk => hk) trivial (Below.refl _ _) (Nat.le_refl _) (by simp) ?_; (case hd => rfl); (case hg => rfl); (case hr => first | (go_simp; done) | (go_simp; rfl)); (case hp => exact (Reps.none _ _)); intro v205 w9 ho10 hb hg_ hnew_; clear hg_ hnew_; (first | rw [← Ny204.out] at ho10 | (simp only [Int.reduceToNat] at ho10; rw [← Ny204.out] at ho10)); have n0_ := Aside0.mk (Kd.R_lower ho10 (below_size (by repeat (first | (with_reducible first | exact HB.out | apply below_alloc | apply pw_below_drewN | apply below_drew1 | refine below_set ?_ GE202.out) | exact HB.out)))); have n1_ := Aside0.mk (blk_below (g := gb202) (o := .cells (tabC a0_0) 24 (0, 0)) (by (with_reducible repeat (first | refine blk_drewN ?_ _ | refine blk_drew ?_ | refine blk_alloc ?_ _)); exact BK202.out) hb); have n2_ := Aside0.mk (below_step (by repeat (first | (with_reducible first | exact HB.out | apply below_alloc | apply pw_below_drewN | apply below_drew1 | refine below_set ?_ GE202.out) | exact HB.out)) hb); clear BK202; clear HB; have HO206 := n0_; have BK202 := n1_; have HB := n2_; clear n0_ n1_ n2_; clear hb ho10) | ((with_reducible refine gate_builtin (b := .append) (xs := #[.tmp 9, .tmp 10]) rfl ?_); at_builtin; refine Kd.R_append_rows (Kd.int .u8) (w0 := w) w.heap.size rfl (.tmp 9) (.tmp 10) 28 5 (.int .u8 0) 1 rfl Try.underlying28 info5 rfl (by decide) (by omega) v205 y204 l1 _ _ _ (fun _ => True) (fun _ => False) rfl rfl ?aO ?aR (fun _ _ h => h) (fun _ h => h.elim) ?aF ?aB ?aS ?aL ?_; (case aR => repeat (first | exact (Kd.C_below HR1.out HB.out) | (with_reducible refine Kd.C_alloc ?_ _) | (with_reducible refine Kd.C_drewN ?_ _) | (with_reducible refine Kd.C_drew ?_))); (case aB => exact (by repeat (first | (with_reducible first | exact HB.out | apply below_alloc | apply pw_below_drewN | apply below_drew1 | refine below_set ?_ GE202.out) | exact HB.out))); (case aF => exact (fun _ _ => trivial)); (case aO => exact (by (with_reducible repeat (first | apply Kd.R_alloc | apply Kd.R_drewN | apply Kd.R_drew)); exact HO206.out)); (case aS => exact (below_size (by repeat (first | (with_reducible first | exact HB.out | apply below_alloc | apply pw_below_drewN | apply below_drew1 | refine below_set ?_ GE202.out) | exact HB.out)))); (case aL => have := LMc4.out; omega); intro v208 w11 ho hb hg hat; rw [← Ny207.out] at ho; have n0_ := Aside0.mk (blk_grown (g := gb202) (o := .cells (tabC a0_0) 24 (0, 0)) (by (with_reducible repeat (first | refine blk_drewN ?_ _ | refine blk_drew ?_ | refine blk_alloc ?_ _)); exact BK202.out) hg (Kd.R_ne HO206.out BK202.out (by decide))); have n1_ := Aside0.mk (hb); have n2_ := Aside0.mk (ho); clear BK202; clear HB; clear HO206; have BK202 := n0_; have HB := n1_; have HO209 := n2_; clear n0_ n1_ n2_; clear ho hb hg hat) | ((with_reducible refine gate_dst (N := 23) rfl ?_); refine Kd.R_lit (Kd.int .u8) _ 5 ?hg (N := 23) ?hd (xs := ([(t203) % 256, ((Int.tdiv t203 256) % 4294967296) % 256, ((Int.tdiv t203 65536) % 4294967296) % 256, ((Int.tdiv t203 16777216) % 4294967296) % 256] : List Int)) (inner := [.int .u8 ((t203) % 256), .int .u8 (((Int.tdiv t203 256) % 4294967296) % 256), .int .u8 (((Int.tdiv t203 65536) % 4294967296) % 256), .int .u8 (((Int.tdiv t203 16777216) % 4294967296) % 256)]) (ok := fun _ => True) (okp := fun _ => True) ?hr ?hp (fun _ hk => hk) trivial (Below.refl _ _) (Nat.le_refl _) (by simp) ?_; (case hd => rfl); (case hg => rfl); (case hr => first | (go_simp; done) | (go_simp; rfl)); (case hp => exact (Reps.one (show Kd.M (Kd.int .u8) _ _ _ ((t203) % 256) [.int .u8 ((t203) % 256)] from rfl) (Reps.one (show Kd.M (Kd.int .u8) _ _ _ (((Int.tdiv t203 256) % 4294967296) % 256) [.int .u8 (((Int.tdiv t203 256) % 4294967296) % 256)] from rfl) (Reps.one (show Kd.M (Kd.int .u8) _ _ _ (((Int.tdiv t203 65536) % 4294967296) % 256) [.int .u8 (((Int.tdiv t203 65536) % 4294967296) % 256)] from rfl) (Reps.one (show Kd.M (Kd.int .u8) _ _ _ (((Int.tdiv t203 16777216) % 4294967296) % 256) [.int .u8 (((Int.tdiv t203 16777216) % 4294967296) % 256)] from rfl) (Reps.none _ _)))))); intro v211 w12 ho13 hb hg_ hnew_; clear hg_ hnew_; (first | rw [← Ny210.out] at ho13 | (simp only [Int.reduceToNat] at ho13; rw [← Ny210.out] at ho13)); have n0_ := Aside0.mk (Kd.R_elder' (by (with_reducible repeat (first | apply Kd.R_alloc | apply Kd.R_drewN | apply Kd.R_drew)); exact HO209.out) (Kd.R_base ho13) hb); have n1_ := Aside0.mk (Kd.R_lower (Kd.R_new' ho13 (Kd.R_lt (by (with_reducible repeat (first | apply Kd.R_alloc | apply Kd.R_drewN | apply Kd.R_drew)); exact HO209.out))) (below_size (by repeat (first | (with_reducible first | exact HB.out | apply below_alloc | apply pw_below_drewN | apply below_drew1 | refine below_set ?_ GE202.out) | exact HB.out)))); have n2_ := Aside0.mk (blk_below (g := gb202) (o := .cells (tabC a0_0) 24 (0, 0)) (by (with_reducible repeat (first | refine blk_drewN ?_ _ | refine blk_drew ?_ | refine blk_alloc ?_ _)); exact BK202.out) hb); have n3_ := Aside0.mk (below_step (by repeat (first | (with_reducible first | exact HB.out | apply below_alloc | apply pw_below_drewN | apply below_drew1 | refine below_set ?_ GE202.out) | exact HB.out)) hb); clear HO209; clear BK202; clear HB; have HO209 := n0_; have HO212 := n1_; have BK202 := n2_; have HB := n3_; clear n0_ n1_ n2_ n3_; clear hb ho13; obtain ⟨Ao15, co15, eo15⟩ := Kd.R_slice HO212.out; subst eo15) | ((with_reducible refine gate_builtin (b := .append) (xs := #[.tmp 11, .tmp 23]) rfl ?_); at_builtin; refine Kd.R_append_rows (Kd.int .u8) (w0 := w) w.heap.size rfl (.tmp 11) (.tmp 23) 28 5 (.int .u8 0) 1 rfl Try.underlying28 info5 rfl (by decide) (by omega) v208 y207 y210 _ _ _ (fun k_ => some k_ ≠ (.slice Ao15 y210.length co15 : Value).ownBlock) (fun _ => False) rfl rfl ?aO ?aR (fun _ _ h => h) (fun _ h => h.elim) ?aF ?aB ?aS ?aL ?_; (case aR => repeat (first | exact (Kd.R_reads' HO212.out).2.2 | (with_reducible refine Kd.C_alloc ?_ _) | (with_reducible refine Kd.C_drewN ?_ _) | (with_reducible refine Kd.C_drew ?_))); (case aB => exact (by repeat (first | (with_reducible first | exact HB.out | apply below_alloc | apply pw_below_drewN | apply below_drew1 | refine below_set ?_ GE202.out) | exact HB.out))); (case aF => exact (fun k_ hk => Kd.fresh' (Kd.R_lt (by (with_reducible repeat (first | apply Kd.R_alloc | apply Kd.R_drewN | apply Kd.R_drew)); exact HO212.out)) k_ hk)); (case aO => exact (by (with_reducible repeat (first | apply Kd.R_alloc | apply Kd.R_drewN | apply Kd.R_drew)); exact Kd.R_mono HO209.out (fun _ hk => hk.2))); (case aS => exact (below_size (by repeat (first | (with_reducible first | exact HB.out | apply below_alloc | apply pw_below_drewN | apply below_drew1 | refine below_set ?_ GE202.out) | exact HB.out)))); (case aL => have := LMc5.out; omega); intro v214 w14 ho hb hg hat; rw [← Ny213.out] at ho; have n0_ := Aside0.mk (blk_grown (g := gb202) (o := .cells (tabC a0_0) 24 (0, 0)) (by (with_reducible repeat (first | refine blk_drewN ?_ _ | refine blk_drew ?_ | refine blk_alloc ?_ _)); exact BK202.out) hg (Kd.R_ne HO209.out BK202.out (by decide))); have n1_ := Aside0.mk (Kd.R_after (ok := (fun _ => True)) (by (with_reducible repeat (first | apply Kd.R_alloc | apply Kd.R_drewN | apply Kd.R_drew)); exact HO212.out) hg hat); have n2_ := Aside0.mk (hb); have n3_ := Aside0.mk (ho); clear BK202; clear HO212; clear HB; clear HO209; have BK202 := n0_; have HO212 := n1_; have HB := n2_; have HO215 := n3_; clear n0_ n1_ n2_ n3_; clear ho hb hg hat))
      go_ret
      exact ⟨_, by first | rfl | (simp [errW_none, errW_some] <;> rfl) | (simp [*, errW_none, errW_some] <;> rfl), by (with_reducible repeat (first | apply Kd.R_alloc | apply Kd.R_drewN | apply Kd.R_drew)); exact Kd.R_mono HO215.out (fun _ hk => trivial), by repeat (first | (with_reducible first | exact HB.out | apply below_alloc | apply pw_below_drewN | apply below_drew1 | refine below_set ?_ GE202.out) | exact HB.out)⟩
    · rw [if_neg c5] at H
      exact absurd H (by simp)
  · rw [if_neg c4] at H
    exact absurd H (by simp)

end Go.Proofs.Ytdoofhbapenhnaa.HCrcTells
