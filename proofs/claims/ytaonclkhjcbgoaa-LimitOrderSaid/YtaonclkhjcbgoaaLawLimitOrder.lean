-- The row of the law LimitOrder, out of its Pure and the walk: the print's form, with structs of five whole numbers as parameters (limit/order.py).
import Derived.Test.YtaonclkhjcbgoaaRows
import Derived.Test.YtaonclkhjcbgoaaHLimitOrderx4
import Derived.Test.YtaonclkhjcbgoaaPureLimitOrder
import Derived.WalkKit
import Derived.ProofKit
import Derived.OpenShut
import Derived.ShutString
import Derived.ChangeOld
import Derived.Below
import Derived.SizedLaws
import Derived.Carry
import Derived.ChangeArms
namespace Go.Proofs.Ytaonclkhjcbgoaa.limitOrder
open Go.ChangeShapes Go.WideShapes Go.ChangeAt Go.RowKit
set_option linter.unusedVariables false
theorem own : ownKnob Try.prog.godebug = none := by kernel_rfl
theorem laidOut : laidOutB Try.prog = true := by kernel_rfl
theorem open_limits {H : Type} {enc : TypeId × Value → H} {W : World} {base b0 : Nat} {sp : Nat → Bool} {held : Bool} {r : Reach} {v : Value} {d : DataW H} {p : List MemPlace} (hv : Value.okWide Try.prog W r b0 23 v) (h : DataW.Trod enc Try.prog W base sp held 23 v d p) :
    ∃ a0 a1 a2 a3 a4 : Int, v = .agg #[.int .i64 a0, .int .i64 a1, .int .i64 a2, .int .i64 a3, .int .i64 a4] := by
  obtain ⟨cs, rfl, hsz⟩ := okWide_struct Try.underlying23 hv
  have hC : Try.prog.cellsOf 23 = 5 := by kernel_rfl
  have h3 : Try.prog.cellsOf 3 = 1 := by kernel_rfl
  obtain ⟨fuel, hf⟩ := h
  obtain ⟨xs, n, _, hx, _, hlen, hg⟩ := DataW.trod_struct Try.underlying23 hf
  obtain ⟨l⟩ := cs
  match l, hsz.trans hC with
  | [c0, c1, c2, c3, c4], _ =>
    have e0 : DataW.trod enc Try.prog W base sp held n 3 [c0] = xs[0]? := by
      have := hg 0 _ rfl
      simpa [Value.cells, h3] using this
    obtain ⟨a0, g0, _, _⟩ := DataW.trod_int Try.underlying3 (e0.trans (List.getElem?_eq_getElem (show 0 < xs.length by rw [hlen]; decide)))
    obtain rfl : c0 = .int .i64 a0 := by simpa using g0
    have e1 : DataW.trod enc Try.prog W base sp held n 3 [c1] = xs[1]? := by
      have := hg 1 _ rfl
      simpa [Value.cells, h3] using this
    obtain ⟨a1, g1, _, _⟩ := DataW.trod_int Try.underlying3 (e1.trans (List.getElem?_eq_getElem (show 1 < xs.length by rw [hlen]; decide)))
    obtain rfl : c1 = .int .i64 a1 := by simpa using g1
    have e2 : DataW.trod enc Try.prog W base sp held n 3 [c2] = xs[2]? := by
      have := hg 2 _ rfl
      simpa [Value.cells, h3] using this
    obtain ⟨a2, g2, _, _⟩ := DataW.trod_int Try.underlying3 (e2.trans (List.getElem?_eq_getElem (show 2 < xs.length by rw [hlen]; decide)))
    obtain rfl : c2 = .int .i64 a2 := by simpa using g2
    have e3 : DataW.trod enc Try.prog W base sp held n 3 [c3] = xs[3]? := by
      have := hg 3 _ rfl
      simpa [Value.cells, h3] using this
    obtain ⟨a3, g3, _, _⟩ := DataW.trod_int Try.underlying3 (e3.trans (List.getElem?_eq_getElem (show 3 < xs.length by rw [hlen]; decide)))
    obtain rfl : c3 = .int .i64 a3 := by simpa using g3
    have e4 : DataW.trod enc Try.prog W base sp held n 3 [c4] = xs[4]? := by
      have := hg 4 _ rfl
      simpa [Value.cells, h3] using this
    obtain ⟨a4, g4, _, _⟩ := DataW.trod_int Try.underlying3 (e4.trans (List.getElem?_eq_getElem (show 4 < xs.length by rw [hlen]; decide)))
    obtain rfl : c4 = .int .i64 a4 := by simpa using g4
    exact ⟨a0, a1, a2, a3, a4, rfl⟩
set_option maxRecDepth 100000 in
theorem lifted (os : Os) (started : os.Started) (H : Type) (enc : TypeId × Value → H) :
    ReturnsInHanded {} Try.checked os 6 .any (Rows.limitOrderSpec.pre6 enc Try.prog Try.f6 Rows.limitOrderRow.domain false) (Rows.limitOrderSpec.post enc Try.prog Try.f6 false true false false) := by
  refine returnsInHanded_of_change_sized (C := Try.checked) own started (by kernel_rfl) Try.func6
    (ChangeSpec.witness6 (enc := enc) (C := Try.checked) false ⟨#[], #[.agg #[.int .i64 0, .int .i64 0, .int .i64 0, .int .i64 0, .int .i64 0], .agg #[.int .i64 0, .int .i64 0, .int .i64 0, .int .i64 0, .int .i64 0], .agg #[.int .i64 0, .int .i64 0, .int .i64 0, .int .i64 0, .int .i64 0]], []⟩ 8 (by kernel_rfl) (by kernel_rfl) (by kernel_rfl) (by kernel_rfl)) ?_
  intro W base args ds gs before hval0 hW hcnd hsz0 _
  have hval : ∀ (j : Nat) t v, Try.f6.params[j]? = some t → args[j]? = some v → Value.okWide Try.prog W .any base t v := hval0
  have hW' := hW
  obtain ⟨p, q, hA0, hV, rfl, hfz, hnd⟩ := hW
  have hA : DataW.TrodAll enc Try.prog W 0 (fun _ => true) true Try.f6.params.toList args.toList ds p := hA0
  rw [Try.params6] at hA hval
  obtain ⟨v0, vs0, d0, ds0, p0, q0, hargs, rfl, rfl, h0, r0⟩ := trodAll_cons hA
  obtain ⟨v1, vs1, d1, ds1, p1, q1, rfl, rfl, rfl, h1, r1⟩ := trodAll_cons r0
  obtain ⟨v2, vs2, d2, ds2, p2, q2, rfl, rfl, rfl, h2, r2⟩ := trodAll_cons r1
  obtain ⟨rfl, rfl, rfl⟩ := trodAll_nil r2
  obtain rfl : args = #[v0, v1, v2] := by cases args; simp_all
  obtain ⟨rfl, rfl⟩ := trodVars_none hV
  have k0 := h0
  have lt0 : ∀ x ∈ p0, x.block < W.heap.size := by obtain ⟨m, hm⟩ := k0; exact DataW.trod_lt m _ _ _ hm
  have k1 := h1
  have lt1 : ∀ x ∈ p1, x.block < W.heap.size := by obtain ⟨m, hm⟩ := k1; exact DataW.trod_lt m _ _ _ hm
  have k2 := h2
  have lt2 : ∀ x ∈ p2, x.block < W.heap.size := by obtain ⟨m, hm⟩ := k2; exact DataW.trod_lt m _ _ _ hm
  obtain ⟨a0, a1, a2, a3, a4, rfl⟩ := open_limits (hval 0 23 v0 rfl rfl) h0
  obtain ⟨b0, b1, b2, b3, b4, rfl⟩ := open_limits (hval 1 23 v1 rfl rfl) h1
  obtain ⟨c0, c1, c2, c3, c4, rfl⟩ := open_limits (hval 2 23 v2 rfl rfl) h2
  clear hA0 hval0 hsz0
  refine (HLimitOrder.decklelaw19_LimitOrder.calls a0 a1 a2 a3 a4 b0 b1 b2 b3 b4 c0 c1 c2 c3 c4 true W (Pure.LimitOrder a0 a1 a2 a3 a4 b0 b1 b2 b3 b4 c0 c1 c2 c3 c4)).mono fun e W' ⟨he, bel⟩ => ?_
  subst he
  exact ⟨_, rfl, _, _, _, [], _, [], hW', trodAll_mk1 (shut_bool Try.underlying4 _), (trodAll_cons_mk (Below.trod laidOut (by kernel_rfl) (of_decide_eq_true (by kernel_rfl)) k0 bel lt0) (trodAll_cons_mk (Below.trod laidOut (by kernel_rfl) (of_decide_eq_true (by kernel_rfl)) k1 bel lt1) (trodAll_cons_mk (Below.trod laidOut (by kernel_rfl) (of_decide_eq_true (by kernel_rfl)) k2 bel lt2) trodAll_mk0))), rfl, bel.frame _, fun h => by cases h⟩
theorem over : Rows.limitOrderRow.holds Try.pinned (OpenSpec.ofChange Rows.limitOrderSpec) :=
  OpenClaim.holds_of_wide 6 Try.f6 rfl rfl rfl rfl rfl rfl rfl ⟨rfl, rfl, rfl, rfl, rfl⟩ rfl rfl rfl rfl rfl (by kernel_rfl) Try.func6 (by kernel_rfl)
    (of_decide_eq_true (by kernel_rfl)) (by unfold Func.isWrapper; first | (rw [if_pos (by decide +kernel)]; kernel_rfl) | (rw [if_neg (by decide +kernel)]; exact ⟨rfl, rfl⟩))
    (fun os started H enc _ => lifted os started H enc)
theorem proved : Rows.LimitOrderSaid := over
#print axioms proved
end Go.Proofs.Ytaonclkhjcbgoaa.limitOrder
namespace Go.Proofs.Ytaonclkhjcbgoaa
/-- The row, under a short name, for the claim. -/
theorem limitOrder_holds : Rows.LimitOrderSaid := limitOrder.proved
end Go.Proofs.Ytaonclkhjcbgoaa
