-- The row of the law CursorPlaces, out of its Pure and the walk (tools/rowgen.py).
import Derived.Test.YtgegbiknohjpgaaRows
import Derived.Test.YtgegbiknohjpgaaHCursorPlacesx5
import Derived.Test.YtgegbiknohjpgaaPureCursorPlaces
import Derived.WalkKit
import Derived.ProofKit
import Derived.OpenShut
import Derived.ShutString
import Derived.ChangeOld
import Derived.Below
import Derived.SizedLaws
import Derived.Carry
import Derived.ChangeArms
import Derived.DataReads
import Derived.Deep.Slices
namespace Go.Proofs.Ytgegbiknohjpgaa.cursorPlaces
open Go.ChangeShapes Go.WideShapes Go.ChangeAt Go.RowKit Go.Proofs.Ytgegbiknohjpgaa.HCursorPlaces Go.Proofs.YtgegbiknohjpgaaW.PrintWords
set_option linter.unusedVariables false
theorem own : ownKnob Try.prog.godebug = none := by kernel_rfl
theorem laidOut : laidOutB Try.prog = true := by kernel_rfl
section
variable {H : Type} {enc : TypeId × Value → H} {W : World} {base b0 : Nat} {sp : Nat → Bool} {held : Bool} {r : Reach}
def cells_bytes (y : Int) : List Value := [.int .u8 y]
theorem elem_bytes {cs : List Value} {x : DataW H × List MemPlace} {n : Nat} (h : DataW.trod enc Try.prog W base sp held n 5 cs = some x) : ∃ y : Int, cs = cells_bytes y ∧ (0 ≤ y ∧ y ≤ 255) := by
  obtain ⟨y, g, _, wf⟩ := DataW.trod_int Try.underlying5 h
  have e0 : IntKind.u8.min = 0 := by decide
  have e1 : IntKind.u8.max = 255 := by decide
  simp only [Lit.wf, Bool.and_eq_true, decide_eq_true_eq, e0, e1] at wf
  exact ⟨y, by simpa [cells_bytes] using g, wf⟩
theorem open_bytes {v : Value} {d : DataW H} {p : List MemPlace} (hv : Value.okWide Try.prog W r b0 22 v) (h : DataW.Trod enc Try.prog W base sp held 22 v d p) :
    ∃ (A : Option Addr) (c : Nat) (l : List Int), v = .slice A l.length c ∧ l.length ≤ c ∧ Kd.C (Kd.int .u8) W A l.length l ∧ ∀ y ∈ l, 0 ≤ y ∧ y ≤ 255 := by
  have hce : Try.prog.cellsOf 5 = 1 := by kernel_rfl
  obtain ⟨a, len, cap, rfl⟩ := okWide_slice Try.underlying22 hv
  obtain ⟨fuel, hf⟩ := h
  rcases DataW.trod_slice Try.underlying22 hf with ⟨hcs, _⟩ | ⟨ad, l, c, elems, rest, n, _, hcs, _, _, hl, hm, hel, hget, _⟩
  · simp [Value.cells] at hcs
    obtain ⟨rfl, rfl, rfl⟩ := hcs
    exact ⟨none, 0, [], rfl, Nat.le_refl _, Kd.C_nil _ _, by simp⟩
  · simp [Value.cells] at hcs
    obtain ⟨rfl, rfl, rfl⟩ := hcs
    have key : ∀ i, i < len → ∃ y : Int, (0 ≤ y ∧ y ≤ 255) ∧ ∀ j u, (cells_bytes y)[j]? = some u → W.cell? (ad.add (i * 1 + j)) = some u := by
      intro i hi
      have h1 := hget i hi
      rw [hce] at h1
      obtain ⟨cs, hc, ht⟩ := Option.bind_eq_some_iff.mp (h1.trans (List.getElem?_eq_getElem (show i < elems.length by omega)))
      obtain ⟨y, rfl, hP⟩ := elem_bytes ht
      obtain ⟨_, _, hat⟩ := World.cells?_some hc
      refine ⟨y, hP, fun j u hj => ?_⟩
      have hjz : j < 1 := by
        have := (List.getElem?_eq_some_iff.1 hj).1
        simpa [cells_bytes] using this
      rw [← Go.Deep.add_add, hat j hjz, hj]
    obtain ⟨f, hf1, hf2⟩ : ∃ f : Nat → Int, (∀ i, i < len → (fun y => 0 ≤ y ∧ y ≤ 255) (f i)) ∧ ∀ i, i < len → ∀ j u, (cells_bytes (f i))[j]? = some u → W.cell? (ad.add (i * 1 + j)) = some u :=
      ⟨fun i => if h : i < len then Classical.choose (key i h) else 0, fun i hi => by simp only [dif_pos hi]; exact (Classical.choose_spec (key i hi)).1, fun i hi => by simp only [dif_pos hi]; exact (Classical.choose_spec (key i hi)).2⟩
    refine ⟨some ad, cap, (List.range len).map f, by simp, by simpa using hl, ?_, ?_⟩
    · refine ⟨rfl, by simp; simp only [maxLen] at hm; omega, fun _ => ⟨ad, rfl, fun j q hq => ?_⟩⟩
      have hj : j < len := by
        have := (List.getElem?_eq_some_iff.1 hq).1
        simpa using this
      obtain rfl : f j = q := by
        rw [List.getElem?_map, List.getElem?_range hj] at hq
        simpa using hq
      exact ⟨cells_bytes (f j), rfl, rfl, fun i u hu => hf2 j hj i u hu⟩
    · intro y hy
      obtain ⟨i, hi, rfl⟩ := List.mem_map.1 hy
      exact hf1 i (List.mem_range.1 hi)
def cells_acts (y : S42) : List Value := [.int .i64 y.f0, .int .i64 y.f1]
theorem elem_acts {cs : List Value} {x : DataW H × List MemPlace} {n : Nat} (h : DataW.trod enc Try.prog W base sp held n 42 cs = some x) : ∃ y : S42, cs = cells_acts y ∧ ((Lit.int .i64 y.f0).wf = true ∧ (Lit.int .i64 y.f1).wf = true) := by
  have h3 : Try.prog.cellsOf 3 = 1 := by kernel_rfl
  have hT : Try.prog.cellsOf 42 = 2 := by kernel_rfl
  obtain ⟨xs, m, _, hx, hl4, hlen, hg⟩ := DataW.trod_struct Try.underlying42 h
  match cs, hl4.trans hT with
  | [c0, c1], _ =>
    have e0 : DataW.trod enc Try.prog W base sp held m 3 [c0] = xs[0]? := by
      have := hg 0 _ rfl
      simpa [h3] using this
    obtain ⟨a0, g0, _, wf0⟩ := DataW.trod_int Try.underlying3 (e0.trans (List.getElem?_eq_getElem (show 0 < xs.length by rw [hlen]; decide)))
    obtain rfl : c0 = .int .i64 a0 := by simpa using g0
    have e1 : DataW.trod enc Try.prog W base sp held m 3 [c1] = xs[1]? := by
      have := hg 1 _ rfl
      simpa [h3] using this
    obtain ⟨a1, g1, _, wf1⟩ := DataW.trod_int Try.underlying3 (e1.trans (List.getElem?_eq_getElem (show 1 < xs.length by rw [hlen]; decide)))
    obtain rfl : c1 = .int .i64 a1 := by simpa using g1
    exact ⟨⟨a0, a1⟩, rfl, wf0, wf1⟩
theorem open_acts {v : Value} {d : DataW H} {p : List MemPlace} (hv : Value.okWide Try.prog W r b0 38 v) (h : DataW.Trod enc Try.prog W base sp held 38 v d p) :
    ∃ (A : Option Addr) (c : Nat) (l : List S42), v = .slice A l.length c ∧ l.length ≤ c ∧ Kd.C k42 W A l.length l ∧ ∀ y ∈ l, (Lit.int .i64 y.f0).wf = true ∧ (Lit.int .i64 y.f1).wf = true := by
  have hce : Try.prog.cellsOf 42 = 2 := by kernel_rfl
  obtain ⟨a, len, cap, rfl⟩ := okWide_slice Try.underlying38 hv
  obtain ⟨fuel, hf⟩ := h
  rcases DataW.trod_slice Try.underlying38 hf with ⟨hcs, _⟩ | ⟨ad, l, c, elems, rest, n, _, hcs, _, _, hl, hm, hel, hget, _⟩
  · simp [Value.cells] at hcs
    obtain ⟨rfl, rfl, rfl⟩ := hcs
    exact ⟨none, 0, [], rfl, Nat.le_refl _, Kd.C_nil _ _, by simp⟩
  · simp [Value.cells] at hcs
    obtain ⟨rfl, rfl, rfl⟩ := hcs
    have key : ∀ i, i < len → ∃ y : S42, ((Lit.int .i64 y.f0).wf = true ∧ (Lit.int .i64 y.f1).wf = true) ∧ ∀ j u, (cells_acts y)[j]? = some u → W.cell? (ad.add (i * 2 + j)) = some u := by
      intro i hi
      have h1 := hget i hi
      rw [hce] at h1
      obtain ⟨cs, hc, ht⟩ := Option.bind_eq_some_iff.mp (h1.trans (List.getElem?_eq_getElem (show i < elems.length by omega)))
      obtain ⟨y, rfl, hP⟩ := elem_acts ht
      obtain ⟨_, _, hat⟩ := World.cells?_some hc
      refine ⟨y, hP, fun j u hj => ?_⟩
      have hjz : j < 2 := by
        have := (List.getElem?_eq_some_iff.1 hj).1
        simpa [cells_acts] using this
      rw [← Go.Deep.add_add, hat j hjz, hj]
    obtain ⟨f, hf1, hf2⟩ : ∃ f : Nat → S42, (∀ i, i < len → (fun y => (Lit.int .i64 y.f0).wf = true ∧ (Lit.int .i64 y.f1).wf = true) (f i)) ∧ ∀ i, i < len → ∀ j u, (cells_acts (f i))[j]? = some u → W.cell? (ad.add (i * 2 + j)) = some u :=
      ⟨fun i => if h : i < len then Classical.choose (key i h) else z42, fun i hi => by simp only [dif_pos hi]; exact (Classical.choose_spec (key i hi)).1, fun i hi => by simp only [dif_pos hi]; exact (Classical.choose_spec (key i hi)).2⟩
    refine ⟨some ad, cap, (List.range len).map f, by simp, by simpa using hl, ?_, ?_⟩
    · refine ⟨rfl, by simp; simp only [maxLen] at hm; omega, fun _ => ⟨ad, rfl, fun j q hq => ?_⟩⟩
      have hj : j < len := by
        have := (List.getElem?_eq_some_iff.1 hq).1
        simpa using this
      obtain rfl : f j = q := by
        rw [List.getElem?_map, List.getElem?_range hj] at hq
        simpa using hq
      exact ⟨cells_acts (f j), rfl, k42_mk W (f j), fun i u hu => hf2 j hj i u hu⟩
    · intro y hy
      obtain ⟨i, hi, rfl⟩ := List.mem_map.1 hy
      exact hf1 i (List.mem_range.1 hi)
end
set_option maxRecDepth 100000 in
theorem lifted (os : Os) (started : os.Started) (H : Type) (enc : TypeId × Value → H) :
    ReturnsInHanded {} Try.checked os 6 .any (Rows.cursorPlacesSpec.pre6 enc Try.prog Try.f6 Rows.cursorPlacesRow.domain false) (Rows.cursorPlacesSpec.post enc Try.prog Try.f6 false true false false) := by
  refine returnsInHanded_of_change_sized (C := Try.checked) own started (by kernel_rfl) Try.func6
    (ChangeSpec.witness6 (enc := enc) (C := Try.checked) false ⟨#[], #[.slice none 0 0, .int .i64 0, .slice none 0 0], []⟩ 8 (by kernel_rfl) (by kernel_rfl) (by kernel_rfl) (by kernel_rfl)) ?_
  intro W base args ds gs before hval0 hW hcnd hsz0 _
  have hval : ∀ (j : Nat) t v, Try.f6.params[j]? = some t → args[j]? = some v → Value.okWide Try.prog W .any base t v := hval0
  have hW' := hW
  obtain ⟨p, q, hA0, hV, rfl, hfz, hnd⟩ := hW
  have hA : DataW.TrodAll enc Try.prog W 0 (fun _ => true) true Try.f6.params.toList args.toList ds p := hA0
  rw [Try.params6] at hA hval
  obtain ⟨v0, vs0, d0, ds0, p0, q0, hargs, rfl, rfl, h0, r0⟩ := trodAll_cons hA
  obtain ⟨v1, vs1, d1, ds1, p1, q1, rfl, rfl, rfl, h1, r1⟩ := trodAll_cons r0
  obtain ⟨v2, vs2, d2, ds2, p2, q2, rfl, rfl, rfl, h2, r2⟩ := trodAll_cons r1
  obtain ⟨rfl, rfl, rfl⟩ := trodAll_nil r2
  obtain rfl : args = #[v0, v1, v2] := by cases args; simp_all
  obtain ⟨rfl, rfl⟩ := trodVars_none hV
  have k0 := h0
  have lt0 : ∀ x ∈ p0, x.block < W.heap.size := by obtain ⟨m, hm⟩ := k0; exact DataW.trod_lt m _ _ _ hm
  have k1 := h1
  have lt1 : ∀ x ∈ p1, x.block < W.heap.size := by obtain ⟨m, hm⟩ := k1; exact DataW.trod_lt m _ _ _ hm
  have k2 := h2
  have lt2 : ∀ x ∈ p2, x.block < W.heap.size := by obtain ⟨m, hm⟩ := k2; exact DataW.trod_lt m _ _ _ hm
  obtain ⟨A0, c0, l0, rfl, hc0, hC0, hP0⟩ := open_bytes (hval 0 22 v0 rfl rfl) h0
  obtain ⟨o1, rfl⟩ := okWide_int Try.underlying3 (hval 1 3 v1 rfl rfl)
  have wo1 : (Lit.int .i64 o1).wf = true := by
    obtain ⟨m_, hm_⟩ := h1
    obtain ⟨y_, g_, _, wf_⟩ := DataW.trod_int Try.underlying3 hm_
    have : o1 = y_ := by simpa [Value.cells] using g_
    rw [this]; exact wf_
  obtain ⟨A2, c2, l2, rfl, hc2, hC2, hP2⟩ := open_acts (hval 2 38 v2 rfl rfl) h2
  clear hA0 hval0 hsz0
  refine (decklelaw04_CursorPlaces.calls 400 A0 c0 l0 o1 A2 c2 l2 true W hC0 hc0 hC2 hc2 (Pure.CursorPlaces l0 hP0 o1 wo1 l2 hP2)).mono fun e W' ⟨he, bel⟩ => ?_
  subst he
  exact ⟨_, rfl, _, _, _, [], _, [], hW', trodAll_mk1 (shut_bool Try.underlying4 _), (trodAll_cons_mk (Below.trod laidOut (by kernel_rfl) (of_decide_eq_true (by kernel_rfl)) k0 bel lt0) (trodAll_cons_mk (Below.trod laidOut (by kernel_rfl) (of_decide_eq_true (by kernel_rfl)) k1 bel lt1) (trodAll_cons_mk (Below.trod laidOut (by kernel_rfl) (of_decide_eq_true (by kernel_rfl)) k2 bel lt2) trodAll_mk0))), rfl, bel.frame _, fun h => by cases h⟩
theorem over : Rows.cursorPlacesRow.holds Try.pinned (OpenSpec.ofChange Rows.cursorPlacesSpec) :=
  OpenClaim.holds_of_wide 6 Try.f6 rfl rfl rfl rfl rfl rfl rfl ⟨rfl, rfl, rfl, rfl, rfl⟩ rfl rfl rfl rfl rfl (by kernel_rfl) Try.func6 (by kernel_rfl)
    (of_decide_eq_true (by kernel_rfl)) (by unfold Func.isWrapper; first | (rw [if_pos (by decide +kernel)]; kernel_rfl) | (rw [if_neg (by decide +kernel)]; exact ⟨rfl, rfl⟩))
    (fun os started H enc _ => lifted os started H enc)
theorem proved : Rows.CursorPlacesSaid := over
#print axioms proved
end Go.Proofs.Ytgegbiknohjpgaa.cursorPlaces
namespace Go.Proofs.Ytgegbiknohjpgaa
/-- The row, under a short name, for the claim. -/
theorem cursorPlaces_holds : Rows.CursorPlacesSaid := cursorPlaces.proved
end Go.Proofs.Ytgegbiknohjpgaa
