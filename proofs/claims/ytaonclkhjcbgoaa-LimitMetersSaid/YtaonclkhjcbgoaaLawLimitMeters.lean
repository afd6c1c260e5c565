-- The row of the law LimitMeters, out of its Pure and the walk: the print's form, with a struct of five whole numbers and a slice of acts as parameters (limit/holdsrow.py).
import Derived.Test.YtaonclkhjcbgoaaRows
import Derived.Test.YtaonclkhjcbgoaaHLimitMetersx6
import Derived.Test.YtaonclkhjcbgoaaPureLimitMeters
import Derived.WalkKit
import Derived.ProofKit
import Derived.OpenShut
import Derived.ShutString
import Derived.ChangeOld
import Derived.Below
import Derived.SizedLaws
import Derived.Carry
import Derived.ChangeArms
import Derived.DataReads
import Derived.Deep.Slices
namespace Go.Proofs.Ytaonclkhjcbgoaa.limitMeters
open Go.ChangeShapes Go.WideShapes Go.ChangeAt Go.RowKit Go.Proofs.Ytaonclkhjcbgoaa.HLimitMeters Go.Proofs.YtaonclkhjcbgoaaW.PrintWords
set_option linter.unusedVariables false
theorem own : ownKnob Try.prog.godebug = none := by kernel_rfl
theorem laidOut : laidOutB Try.prog = true := by kernel_rfl
section
variable {H : Type} {enc : TypeId × Value → H} {W : World} {base b0 : Nat} {sp : Nat → Bool} {held : Bool} {r : Reach}
theorem open_limits {v : Value} {d : DataW H} {p : List MemPlace} (hv : Value.okWide Try.prog W r b0 23 v) (h : DataW.Trod enc Try.prog W base sp held 23 v d p) :
    ∃ a0 a1 a2 a3 a4 : Int, v = .agg #[.int .i64 a0, .int .i64 a1, .int .i64 a2, .int .i64 a3, .int .i64 a4] ∧ (Lit.int .i64 a0).wf = true ∧ (Lit.int .i64 a1).wf = true ∧ (Lit.int .i64 a2).wf = true ∧ (Lit.int .i64 a3).wf = true ∧ (Lit.int .i64 a4).wf = true := by
  obtain ⟨cs, rfl, hsz⟩ := okWide_struct Try.underlying23 hv
  have hC : Try.prog.cellsOf 23 = 5 := by kernel_rfl
  have h3 : Try.prog.cellsOf 3 = 1 := by kernel_rfl
  obtain ⟨fuel, hf⟩ := h
  obtain ⟨xs, n, _, hx, _, hlen, hg⟩ := DataW.trod_struct Try.underlying23 hf
  obtain ⟨l⟩ := cs
  match l, hsz.trans hC with
  | [c0, c1, c2, c3, c4], _ =>
    have e0 : DataW.trod enc Try.prog W base sp held n 3 [c0] = xs[0]? := by
      have := hg 0 _ rfl
      simpa [Value.cells, h3] using this
    obtain ⟨a0, g0, _, w0⟩ := DataW.trod_int Try.underlying3 (e0.trans (List.getElem?_eq_getElem (show 0 < xs.length by rw [hlen]; decide)))
    obtain rfl : c0 = .int .i64 a0 := by simpa using g0
    have e1 : DataW.trod enc Try.prog W base sp held n 3 [c1] = xs[1]? := by
      have := hg 1 _ rfl
      simpa [Value.cells, h3] using this
    obtain ⟨a1, g1, _, w1⟩ := DataW.trod_int Try.underlying3 (e1.trans (List.getElem?_eq_getElem (show 1 < xs.length by rw [hlen]; decide)))
    obtain rfl : c1 = .int .i64 a1 := by simpa using g1
    have e2 : DataW.trod enc Try.prog W base sp held n 3 [c2] = xs[2]? := by
      have := hg 2 _ rfl
      simpa [Value.cells, h3] using this
    obtain ⟨a2, g2, _, w2⟩ := DataW.trod_int Try.underlying3 (e2.trans (List.getElem?_eq_getElem (show 2 < xs.length by rw [hlen]; decide)))
    obtain rfl : c2 = .int .i64 a2 := by simpa using g2
    have e3 : DataW.trod enc Try.prog W base sp held n 3 [c3] = xs[3]? := by
      have := hg 3 _ rfl
      simpa [Value.cells, h3] using this
    obtain ⟨a3, g3, _, w3⟩ := DataW.trod_int Try.underlying3 (e3.trans (List.getElem?_eq_getElem (show 3 < xs.length by rw [hlen]; decide)))
    obtain rfl : c3 = .int .i64 a3 := by simpa using g3
    have e4 : DataW.trod enc Try.prog W base sp held n 3 [c4] = xs[4]? := by
      have := hg 4 _ rfl
      simpa [Value.cells, h3] using this
    obtain ⟨a4, g4, _, w4⟩ := DataW.trod_int Try.underlying3 (e4.trans (List.getElem?_eq_getElem (show 4 < xs.length by rw [hlen]; decide)))
    obtain rfl : c4 = .int .i64 a4 := by simpa using g4
    exact ⟨a0, a1, a2, a3, a4, rfl, w0, w1, w2, w3, w4⟩
def cellsOf33 (y : S33) : List Value := [.int .i64 y.f0, .int .i64 y.f1.f0, .int .i64 y.f1.f1, .int .i64 y.f1.f2]
theorem elem_act {cs : List Value} {x : DataW H × List MemPlace} {n : Nat} (h : DataW.trod enc Try.prog W base sp held n 33 cs = some x) : ∃ y : S33, cs = cellsOf33 y := by
  have h3 : Try.prog.cellsOf 3 = 1 := by kernel_rfl
  have h31 : Try.prog.cellsOf 31 = 3 := by kernel_rfl
  have h33 : Try.prog.cellsOf 33 = 4 := by kernel_rfl
  obtain ⟨xs, m, _, hx, hl4, hlen, hg⟩ := DataW.trod_struct Try.underlying33 h
  match cs, hl4.trans h33 with
  | [c0, c1, c2, c3], _ =>
    have e0 : DataW.trod enc Try.prog W base sp held m 3 [c0] = xs[0]? := by
      have := hg 0 _ rfl
      simpa [h3] using this
    obtain ⟨a0, g0, _, _⟩ := DataW.trod_int Try.underlying3 (e0.trans (List.getElem?_eq_getElem (show 0 < xs.length by rw [hlen]; decide)))
    obtain rfl : c0 = .int .i64 a0 := by simpa using g0
    have e1 : DataW.trod enc Try.prog W base sp held m 31 [c1, c2, c3] = xs[1]? := by
      have := hg 1 _ rfl
      simpa [h31] using this
    obtain ⟨ys, m2, _, _, _, hlen2, hg2⟩ := DataW.trod_array Try.underlying31 (e1.trans (List.getElem?_eq_getElem (show 1 < xs.length by rw [hlen]; decide)))
    have k0 : DataW.trod enc Try.prog W base sp held m2 3 [c1] = ys[0]? := by
      have := hg2 0 (by decide)
      simpa [h3] using this
    have k1 : DataW.trod enc Try.prog W base sp held m2 3 [c2] = ys[1]? := by
      have := hg2 1 (by decide)
      simpa [h3] using this
    have k2 : DataW.trod enc Try.prog W base sp held m2 3 [c3] = ys[2]? := by
      have := hg2 2 (by decide)
      simpa [h3] using this
    obtain ⟨b0, q0, _, _⟩ := DataW.trod_int Try.underlying3 (k0.trans (List.getElem?_eq_getElem (show 0 < ys.length by rw [hlen2]; decide)))
    obtain ⟨b1, q1, _, _⟩ := DataW.trod_int Try.underlying3 (k1.trans (List.getElem?_eq_getElem (show 1 < ys.length by rw [hlen2]; decide)))
    obtain ⟨b2, q2, _, _⟩ := DataW.trod_int Try.underlying3 (k2.trans (List.getElem?_eq_getElem (show 2 < ys.length by rw [hlen2]; decide)))
    obtain rfl : c1 = .int .i64 b0 := by simpa using q0
    obtain rfl : c2 = .int .i64 b1 := by simpa using q1
    obtain rfl : c3 = .int .i64 b2 := by simpa using q2
    exact ⟨⟨a0, ⟨b0, b1, b2⟩⟩, rfl⟩
theorem open_acts {v : Value} {d : DataW H} {p : List MemPlace} (hv : Value.okWide Try.prog W r b0 24 v) (h : DataW.Trod enc Try.prog W base sp held 24 v d p) :
    ∃ (A : Option Addr) (c : Nat) (l : List S33), v = .slice A l.length c ∧ l.length ≤ c ∧ Kd.C k33 W A l.length l := by
  have h33 : Try.prog.cellsOf 33 = 4 := by kernel_rfl
  obtain ⟨a, len, cap, rfl⟩ := okWide_slice Try.underlying24 hv
  obtain ⟨fuel, hf⟩ := h
  rcases DataW.trod_slice Try.underlying24 hf with ⟨hcs, _⟩ | ⟨ad, l, c, elems, rest, n, _, hcs, _, _, hl, hm, hel, hget, _⟩
  · simp [Value.cells] at hcs
    obtain ⟨rfl, rfl, rfl⟩ := hcs
    exact ⟨none, 0, [], rfl, Nat.le_refl _, Kd.C_nil _ _⟩
  · simp [Value.cells] at hcs
    obtain ⟨rfl, rfl, rfl⟩ := hcs
    have key : ∀ i, i < len → ∃ y : S33, ∀ j u, (cellsOf33 y)[j]? = some u → W.cell? (ad.add (i * 4 + j)) = some u := by
      intro i hi
      have h1 := hget i hi
      rw [h33] at h1
      obtain ⟨cs, hc, ht⟩ := Option.bind_eq_some_iff.mp (h1.trans (List.getElem?_eq_getElem (show i < elems.length by omega)))
      obtain ⟨y, rfl⟩ := elem_act ht
      obtain ⟨_, _, hat⟩ := World.cells?_some hc
      refine ⟨y, fun j u hj => ?_⟩
      have hj4 : j < 4 := by
        have := (List.getElem?_eq_some_iff.1 hj).1
        simpa [cellsOf33] using this
      rw [← Go.Deep.add_add, hat j hj4, hj]
    obtain ⟨f, hf2⟩ : ∃ f : Nat → S33, ∀ i, i < len → ∀ j u, (cellsOf33 (f i))[j]? = some u → W.cell? (ad.add (i * 4 + j)) = some u :=
      ⟨fun i => if h : i < len then Classical.choose (key i h) else z33, fun i hi => by simp only [dif_pos hi]; exact Classical.choose_spec (key i hi)⟩
    refine ⟨some ad, cap, (List.range len).map f, by simp, by simpa using hl, ?_⟩
    refine ⟨rfl, by simp; simp only [maxLen] at hm; omega, fun _ => ⟨ad, rfl, fun j q hq => ?_⟩⟩
    have hj : j < len := by
      have := (List.getElem?_eq_some_iff.1 hq).1
      simpa using this
    obtain rfl : f j = q := by
      rw [List.getElem?_map, List.getElem?_range hj] at hq
      simpa using hq
    exact ⟨cellsOf33 (f j), rfl, k33_mk W (f j), fun i u hu => hf2 j hj i u hu⟩
end
set_option maxRecDepth 100000 in
theorem lifted (os : Os) (started : os.Started) (H : Type) (enc : TypeId × Value → H) :
    ReturnsInHanded {} Try.checked os 3 .any (Rows.limitMetersSpec.pre6 enc Try.prog Try.f3 Rows.limitMetersRow.domain false) (Rows.limitMetersSpec.post enc Try.prog Try.f3 false true false false) := by
  refine returnsInHanded_of_change_sized (C := Try.checked) own started (by kernel_rfl) Try.func3
    (ChangeSpec.witness6 (enc := enc) (C := Try.checked) false ⟨#[], #[.agg #[.int .i64 0, .int .i64 0, .int .i64 0, .int .i64 0, .int .i64 0], .agg #[.int .i64 0, .int .i64 0, .int .i64 0, .int .i64 0, .int .i64 0], .slice none 0 0], []⟩ 8 (by kernel_rfl) (by kernel_rfl) (by kernel_rfl) (by kernel_rfl)) ?_
  intro W base args ds gs before hval0 hW hcnd hsz0 _
  have hval : ∀ (j : Nat) t v, Try.f3.params[j]? = some t → args[j]? = some v → Value.okWide Try.prog W .any base t v := hval0
  have hW' := hW
  obtain ⟨p, q, hA0, hV, rfl, hfz, hnd⟩ := hW
  have hA : DataW.TrodAll enc Try.prog W 0 (fun _ => true) true Try.f3.params.toList args.toList ds p := hA0
  rw [Try.params3] at hA hval
  obtain ⟨v0, vs0, d0, ds0, p0, q0, hargs, rfl, rfl, h0, r0⟩ := trodAll_cons hA
  obtain ⟨v1, vs1, d1, ds1, p1, q1, rfl, rfl, rfl, h1, r1⟩ := trodAll_cons r0
  obtain ⟨v2, vs2, d2, ds2, p2, q2, rfl, rfl, rfl, h2, r2⟩ := trodAll_cons r1
  obtain ⟨rfl, rfl, rfl⟩ := trodAll_nil r2
  obtain rfl : args = #[v0, v1, v2] := by cases args; simp_all
  obtain ⟨rfl, rfl⟩ := trodVars_none hV
  have k0 := h0
  have lt0 : ∀ x ∈ p0, x.block < W.heap.size := by obtain ⟨m, hm⟩ := k0; exact DataW.trod_lt m _ _ _ hm
  have k1 := h1
  have lt1 : ∀ x ∈ p1, x.block < W.heap.size := by obtain ⟨m, hm⟩ := k1; exact DataW.trod_lt m _ _ _ hm
  have k2 := h2
  have lt2 : ∀ x ∈ p2, x.block < W.heap.size := by obtain ⟨m, hm⟩ := k2; exact DataW.trod_lt m _ _ _ hm
  obtain ⟨a0, a1, a2, a3, a4, rfl, wa0, wa1, wa2, wa3, wa4⟩ := open_limits (hval 0 23 v0 rfl rfl) h0
  obtain ⟨b0, b1, b2, b3, b4, rfl, wb0, wb1, wb2, wb3, wb4⟩ := open_limits (hval 1 23 v1 rfl rfl) h1
  obtain ⟨A, c, l, rfl, hc, hC⟩ := open_acts (hval 2 24 v2 rfl rfl) h2
  clear hA0 hval0 hsz0
  refine (decklelaw19_LimitMeters.calls 500 a0 a1 a2 a3 a4 b0 b1 b2 b3 b4 A c l true W hC hc (Pure.LimitMeters a0 a1 a2 a3 a4 wa0 wa1 wa2 wa3 wa4 b0 b1 b2 b3 b4 wb0 wb1 wb2 wb3 wb4 l)).mono fun e W' ⟨he, bel⟩ => ?_
  subst he
  exact ⟨_, rfl, _, _, _, [], _, [], hW', trodAll_mk1 (shut_bool Try.underlying4 _), (trodAll_cons_mk (Below.trod laidOut (by kernel_rfl) (of_decide_eq_true (by kernel_rfl)) k0 bel lt0) (trodAll_cons_mk (Below.trod laidOut (by kernel_rfl) (of_decide_eq_true (by kernel_rfl)) k1 bel lt1) (trodAll_cons_mk (Below.trod laidOut (by kernel_rfl) (of_decide_eq_true (by kernel_rfl)) k2 bel lt2) trodAll_mk0))), rfl, bel.frame _, fun h => by cases h⟩
theorem over : Rows.limitMetersRow.holds Try.pinned (OpenSpec.ofChange Rows.limitMetersSpec) :=
  OpenClaim.holds_of_wide 3 Try.f3 rfl rfl rfl rfl rfl rfl rfl ⟨rfl, rfl, rfl, rfl, rfl⟩ rfl rfl rfl rfl rfl (by kernel_rfl) Try.func3 (by kernel_rfl)
    (of_decide_eq_true (by kernel_rfl)) (by unfold Func.isWrapper; first | (rw [if_pos (by decide +kernel)]; kernel_rfl) | (rw [if_neg (by decide +kernel)]; exact ⟨rfl, rfl⟩))
    (fun os started H enc _ => lifted os started H enc)
theorem proved : Rows.LimitMetersSaid := over
#print axioms proved
end Go.Proofs.Ytaonclkhjcbgoaa.limitMeters
namespace Go.Proofs.Ytaonclkhjcbgoaa
/-- The row, under a short name, for the claim. -/
theorem limitMeters_holds : Rows.LimitMetersSaid := limitMeters.proved
end Go.Proofs.Ytaonclkhjcbgoaa
