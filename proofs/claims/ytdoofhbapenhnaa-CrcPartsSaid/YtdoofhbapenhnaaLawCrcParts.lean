-- The row of the law CrcParts, out of its Pure and the walk (crc/rows02.py).
import Derived.Test.YtdoofhbapenhnaaRows
import Derived.Test.YtdoofhbapenhnaaHCrcPartsx4
import Derived.Test.YtdoofhbapenhnaaPureCrcParts
import Derived.WalkKit
import Derived.ProofKit
import Derived.OpenShut
import Derived.ShutString
import Derived.ChangeOld
import Derived.Below
import Derived.SizedLaws
import Derived.Carry
import Derived.ChangeArms
import Derived.DataReads
import Derived.Deep.Slices
namespace Go.Proofs.Ytdoofhbapenhnaa.crcParts
open Go.ChangeShapes Go.WideShapes Go.ChangeAt Go.RowKit Go.Proofs.Ytdoofhbapenhnaa.HCrcParts Go.Proofs.YtdoofhbapenhnaaW.PrintWords
set_option linter.unusedVariables false
theorem own : ownKnob Try.prog.godebug = none := by kernel_rfl
theorem laidOut : laidOutB Try.prog = true := by kernel_rfl
section
variable {H : Type} {enc : TypeId × Value → H} {W : World} {base b0 : Nat} {sp : Nat → Bool} {held : Bool} {r : Reach}
theorem one_byte {cs : List Value} {x : DataW H × List MemPlace} {n : Nat} (h : DataW.trod enc Try.prog W base sp held n 5 cs = some x) : ∃ y : Int, cs = [.int .u8 y] ∧ (0 ≤ y ∧ y ≤ 255) := by
  obtain ⟨y, g, _, wf⟩ := DataW.trod_int Try.underlying5 h
  have e0 : IntKind.u8.min = 0 := by decide
  have e1 : IntKind.u8.max = 255 := by decide
  simp only [Lit.wf, Bool.and_eq_true, decide_eq_true_eq, e0, e1] at wf
  exact ⟨y, by simpa using g, wf⟩
theorem in_bytes {c0 : Value} {x : DataW H × List MemPlace} {n : Nat} (h : DataW.trod enc Try.prog W base sp held n 28 [c0] = some x) :
    ∃ (A : Option Addr) (c : Nat) (l : List Int), c0 = .slice A l.length c ∧ l.length ≤ c ∧ Kd.C (Kd.int .u8) W A l.length l ∧ ∀ y ∈ l, 0 ≤ y ∧ y ≤ 255 := by
  have hce : Try.prog.cellsOf 5 = 1 := by kernel_rfl
  rcases DataW.trod_slice Try.underlying28 h with ⟨hcs, _⟩ | ⟨ad, len, cap, elems, rest, n, _, hcs, _, _, hl, hm, hel, hget, _⟩
  · simp at hcs
    subst hcs
    exact ⟨none, 0, [], rfl, Nat.le_refl _, Kd.C_nil _ _, by simp⟩
  · simp at hcs
    subst hcs
    have key : ∀ i, i < len → ∃ y : Int, (0 ≤ y ∧ y ≤ 255) ∧ ∀ j u, ([Value.int .u8 y])[j]? = some u → W.cell? (ad.add (i * 1 + j)) = some u := by
      intro i hi
      have h1 := hget i hi
      rw [hce] at h1
      obtain ⟨cs, hc, ht⟩ := Option.bind_eq_some_iff.mp (h1.trans (List.getElem?_eq_getElem (show i < elems.length by omega)))
      obtain ⟨y, rfl, hP⟩ := one_byte ht
      obtain ⟨_, _, hat⟩ := World.cells?_some hc
      refine ⟨y, hP, fun j u hj => ?_⟩
      have hjz : j < 1 := by
        have := (List.getElem?_eq_some_iff.1 hj).1
        simpa using this
      rw [← Go.Deep.add_add, hat j hjz, hj]
    obtain ⟨f, hf1, hf2⟩ : ∃ f : Nat → Int, (∀ i, i < len → (fun y => 0 ≤ y ∧ y ≤ 255) (f i)) ∧ ∀ i, i < len → ∀ j u, ((fun y : Int => [Value.int .u8 y]) (f i))[j]? = some u → W.cell? (ad.add (i * 1 + j)) = some u :=
      ⟨fun i => if h : i < len then Classical.choose (key i h) else 0, fun i hi => by simp only [dif_pos hi]; exact (Classical.choose_spec (key i hi)).1, fun i hi => by simp only [dif_pos hi]; exact (Classical.choose_spec (key i hi)).2⟩
    refine ⟨some ad, cap, (List.range len).map f, by simp, by simpa using hl, ?_, ?_⟩
    · refine ⟨rfl, by simp; simp only [maxLen] at hm; omega, fun _ => ⟨ad, rfl, fun j q hq => ?_⟩⟩
      have hj : j < len := by
        have := (List.getElem?_eq_some_iff.1 hq).1
        simpa using this
      obtain rfl : f j = q := by
        rw [List.getElem?_map, List.getElem?_range hj] at hq
        simpa using hq
      exact ⟨(fun y : Int => [Value.int .u8 y]) (f j), rfl, rfl, fun i u hu => hf2 j hj i u hu⟩
    · intro y hy
      obtain ⟨i, hi, rfl⟩ := List.mem_map.1 hy
      exact hf1 i (List.mem_range.1 hi)
theorem open_bytes {v : Value} {d : DataW H} {p : List MemPlace} (hv : Value.okWide Try.prog W r b0 28 v) (h : DataW.Trod enc Try.prog W base sp held 28 v d p) :
    ∃ (A : Option Addr) (c : Nat) (l : List Int), v = .slice A l.length c ∧ l.length ≤ c ∧ Kd.C (Kd.int .u8) W A l.length l ∧ ∀ y ∈ l, 0 ≤ y ∧ y ≤ 255 := by
  obtain ⟨a, len, cap, rfl⟩ := okWide_slice Try.underlying28 hv
  obtain ⟨fuel, hf⟩ := h
  exact in_bytes hf
theorem open_tab {v : Value} {d : DataW H} {p : List MemPlace} (hv : Value.okWide Try.prog W r b0 24 v) (h : DataW.Trod enc Try.prog W base sp held 24 v d p) :
    ∃ l : List Int, v = .agg (tabC l) ∧ ∀ i : Nat, i < 256 → (Lit.int .u32 (rd l (i : Int))).wf = true := by
  have hce : Try.prog.cellsOf 22 = 1 := by kernel_rfl
  have hct : Try.prog.cellsOf 24 = 256 := by kernel_rfl
  obtain ⟨cs, rfl, hcs⟩ : ∃ cs, v = .agg cs ∧ cs.size = Try.prog.cellsOf 24 := by
    simp only [Value.okWide, Try.underlying24] at hv
    obtain ⟨cs, h1, h2, _⟩ := hv
    exact ⟨cs, h1, h2⟩
  rw [hct] at hcs
  obtain ⟨fuel, hf⟩ := h
  obtain ⟨xs, m, _, _, _, hlen, hg⟩ := DataW.trod_array Try.underlying24 hf
  have key : ∀ i, (hi : i < 256) → ∃ y : Int, cs[i]? = some (.int .u32 y) ∧ (Lit.int .u32 y).wf = true := by
    intro i hi
    have h1 := hg i hi
    rw [hce] at h1
    obtain ⟨y, g, _, wf⟩ := DataW.trod_int Try.underlying22 (h1.trans (List.getElem?_eq_getElem (show i < xs.length by omega)))
    refine ⟨y, ?_, wf⟩
    have hc : ((Value.agg cs).cells.toList.drop (i * 1)).take 1 = [cs[i]'(by omega)] := by
      simp only [Value.cells, Nat.mul_one]
      rw [List.drop_eq_getElem_cons (by simpa using (show i < cs.size by omega))]
      simp
    rw [hc] at g
    have e : cs[i]'(by omega) = .int .u32 y := by simpa using g
    rw [Array.getElem?_eq_getElem (show i < cs.size by omega), e]
  have key2 : ∀ i : Nat, ∃ y : Int, i < 256 → cs[i]? = some (.int .u32 y) ∧ (Lit.int .u32 y).wf = true := fun i => by
    by_cases hi : i < 256
    · obtain ⟨y, h⟩ := key i hi
      exact ⟨y, fun _ => h⟩
    · exact ⟨0, fun h => absurd h hi⟩
  obtain ⟨f, hf2⟩ := Classical.axiomOfChoice key2
  have hr : ∀ i : Nat, i < 256 → rd ((List.range 256).map f) (i : Int) = f i := by
    intro i hi
    unfold rd
    rw [List.getD_eq_getElem?_getD, Int.toNat_natCast, List.getElem?_map, List.getElem?_range hi]
    rfl
  refine ⟨(List.range 256).map f, ?_, fun i hi => by rw [hr i hi]; exact (hf2 i hi).2⟩
  congr 1
  apply Array.ext_getElem?
  intro i
  by_cases hi : i < 256
  · rw [tabC_at _ _ hi, hr i hi]
    exact (hf2 i hi).1
  · rw [Array.getElem?_eq_none (by omega), Array.getElem?_eq_none (by rw [tabC_size]; omega)]
end
set_option maxRecDepth 100000 in
theorem lifted (os : Os) (started : os.Started) (H : Type) (enc : TypeId × Value → H) :
    ReturnsInHanded {} Try.checked os 5 .any (Rows.crcPartsSpec.pre6 enc Try.prog Try.f5 Rows.crcPartsRow.domain false) (Rows.crcPartsSpec.post enc Try.prog Try.f5 false true false false) := by
  refine returnsInHanded_of_change_sized (C := Try.checked) own started (by kernel_rfl) Try.func5
    (ChangeSpec.witness6 (enc := enc) (C := Try.checked) false ⟨#[], #[.agg (tabC []), .slice none 0 0, .int .i64 0, .int .i64 0], []⟩ 8 (by kernel_rfl) (by kernel_rfl) (by kernel_rfl) (by kernel_rfl)) ?_
  intro W base args ds gs before hval0 hW hcnd hsz0 _
  have hval : ∀ (j : Nat) t v, Try.f5.params[j]? = some t → args[j]? = some v → Value.okWide Try.prog W .any base t v := hval0
  have hW' := hW
  obtain ⟨p, q, hA0, hV, rfl, hfz, hnd⟩ := hW
  have hA : DataW.TrodAll enc Try.prog W 0 (fun _ => true) true Try.f5.params.toList args.toList ds p := hA0
  rw [Try.params5] at hA hval
  obtain ⟨v0, vs0, d0, ds0, p0, q0, hargs, rfl, rfl, h0, r0⟩ := trodAll_cons hA
  obtain ⟨v1, vs1, d1, ds1, p1, q1, rfl, rfl, rfl, h1, r1⟩ := trodAll_cons r0
  obtain ⟨v2, vs2, d2, ds2, p2, q2, rfl, rfl, rfl, h2, r2⟩ := trodAll_cons r1
  obtain ⟨v3, vs3, d3, ds3, p3, q3, rfl, rfl, rfl, h3, r3⟩ := trodAll_cons r2
  obtain ⟨rfl, rfl, rfl⟩ := trodAll_nil r3
  obtain rfl : args = #[v0, v1, v2, v3] := by cases args; simp_all
  obtain ⟨rfl, rfl⟩ := trodVars_none hV
  have k0 := h0
  have lt0 : ∀ x ∈ p0, x.block < W.heap.size := by obtain ⟨m, hm⟩ := k0; exact DataW.trod_lt m _ _ _ hm
  have k1 := h1
  have lt1 : ∀ x ∈ p1, x.block < W.heap.size := by obtain ⟨m, hm⟩ := k1; exact DataW.trod_lt m _ _ _ hm
  have k2 := h2
  have lt2 : ∀ x ∈ p2, x.block < W.heap.size := by obtain ⟨m, hm⟩ := k2; exact DataW.trod_lt m _ _ _ hm
  have k3 := h3
  have lt3 : ∀ x ∈ p3, x.block < W.heap.size := by obtain ⟨m, hm⟩ := k3; exact DataW.trod_lt m _ _ _ hm
  obtain ⟨l0, rfl, hP0⟩ := open_tab (hval 0 24 v0 rfl rfl) h0
  obtain ⟨A1, c1, l1, rfl, hc1, hC1, hP1⟩ := open_bytes (hval 1 28 v1 rfl rfl) h1
  obtain ⟨o2, rfl⟩ := okWide_int Try.underlying3 (hval 2 3 v2 rfl rfl)
  have wo2 : (Lit.int .i64 o2).wf = true := by
    obtain ⟨m_, hm_⟩ := h2
    obtain ⟨y_, g_, _, wf_⟩ := DataW.trod_int Try.underlying3 hm_
    have : o2 = y_ := by simpa [Value.cells] using g_
    rw [this]; exact wf_
  obtain ⟨o3, rfl⟩ := okWide_int Try.underlying3 (hval 3 3 v3 rfl rfl)
  have wo3 : (Lit.int .i64 o3).wf = true := by
    obtain ⟨m_, hm_⟩ := h3
    obtain ⟨y_, g_, _, wf_⟩ := DataW.trod_int Try.underlying3 hm_
    have : o3 = y_ := by simpa [Value.cells] using g_
    rw [this]; exact wf_
  clear hA0 hval0 hsz0
  obtain ⟨K_, hK_⟩ := Pure.CrcParts l0 hP0 l1 hP1 o2 wo2 o3 wo3
  refine (decklelaw02_CrcParts.calls K_ l0 (fun k_ => k_ < W.heap.size) A1 c1 l1 o2 o3 true W (Kd.V_mk hc1 (Kd.C_F (Kd.heap_int .u8) hC1)) hK_).mono fun e W' ⟨he, bel⟩ => ?_
  subst he
  exact ⟨_, rfl, _, _, _, [], _, [], hW', trodAll_mk1 (shut_bool Try.underlying4 _), (trodAll_cons_mk (Below.trod laidOut (by kernel_rfl) (of_decide_eq_true (by kernel_rfl)) k0 bel lt0) (trodAll_cons_mk (Below.trod laidOut (by kernel_rfl) (of_decide_eq_true (by kernel_rfl)) k1 bel lt1) (trodAll_cons_mk (Below.trod laidOut (by kernel_rfl) (of_decide_eq_true (by kernel_rfl)) k2 bel lt2) (trodAll_cons_mk (Below.trod laidOut (by kernel_rfl) (of_decide_eq_true (by kernel_rfl)) k3 bel lt3) trodAll_mk0)))), rfl, bel.frame _, fun h => by cases h⟩
theorem over : Rows.crcPartsRow.holds Try.pinned (OpenSpec.ofChange Rows.crcPartsSpec) :=
  OpenClaim.holds_of_wide 5 Try.f5 rfl rfl rfl rfl rfl rfl rfl ⟨rfl, rfl, rfl, rfl, rfl⟩ rfl rfl rfl rfl rfl (by kernel_rfl) Try.func5 (by kernel_rfl)
    (of_decide_eq_true (by kernel_rfl)) (by unfold Func.isWrapper; first | (rw [if_pos (by decide +kernel)]; kernel_rfl) | (rw [if_neg (by decide +kernel)]; exact ⟨rfl, rfl⟩))
    (fun os started H enc _ => lifted os started H enc)
theorem proved : Rows.CrcPartsSaid := over
#print axioms proved
end Go.Proofs.Ytdoofhbapenhnaa.crcParts
namespace Go.Proofs.Ytdoofhbapenhnaa
/-- The row, under a short name, for the claim. -/
theorem crcParts_holds : Rows.CrcPartsSaid := crcParts.proved
end Go.Proofs.Ytdoofhbapenhnaa
