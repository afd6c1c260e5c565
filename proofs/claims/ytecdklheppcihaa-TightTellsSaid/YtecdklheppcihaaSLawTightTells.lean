/- Words and walks, shortened by a program: what this claim's functions answer, and that other memory stays. -/
import Derived.Test.YtecdklheppcihaaRows
import Derived.Test.YtecdklheppcihaaSTightTellsx23
import Derived.Test.YtecdklheppcihaaSPureTightTells
import Derived.WalkKit
import Derived.ProofKit
import Derived.OpenShut
import Derived.ShutString
import Derived.ChangeOld
import Derived.Below
import Derived.SizedLaws
import Derived.Carry
import Derived.ChangeArms
import Derived.DataReads
import Derived.Deep.Slices
namespace Go.Proofs.Ytecdklheppcihaa.tightTells
open Go.ChangeShapes Go.WideShapes Go.ChangeAt Go.RowKit Go.Proofs.Ytecdklheppcihaa.HTightTells Go.Proofs.YtecdklheppcihaaW.PrintWords Go.Proofs.YtecdklheppcihaaW.PrintWords.Kd
set_option linter.unusedVariables false
theorem own : ownKnob Try.prog.godebug = none := by kernel_rfl
theorem laidOut : laidOutB Try.prog = true := by kernel_rfl
section
variable {H : Type} {enc : TypeId × Value → H} {W : World} {base b0 : Nat} {sp : Nat → Bool} {held : Bool} {r : Reach}
def wfD (y : S38) : Prop := (Lit.int .i64 y.f0).wf = true ∧ (Lit.int .i64 y.f1).wf = true
def wfN (y : S30) : Prop := (Lit.int .i64 y.f0).wf = true ∧ (∀ x ∈ y.f1, (Lit.int .i64 x).wf = true) ∧ (∀ x ∈ y.f2, (Lit.int .i64 x).wf = true) ∧ ∀ x ∈ y.f3, wfD x
theorem one_int {cs : List Value} {x : DataW H × List MemPlace} {n : Nat} (h : DataW.trod enc Try.prog W base sp held n 3 cs = some x) : ∃ y : Int, cs = [.int .i64 y] ∧ (Lit.int .i64 y).wf = true := by
 obtain ⟨y, g, _, wf⟩ := DataW.trod_int Try.underlying3 h
 exact ⟨y, by simpa using g, wf⟩
theorem one_dec {cs : List Value} {x : DataW H × List MemPlace} {n : Nat} (h : DataW.trod enc Try.prog W base sp held n 38 cs = some x) : ∃ y : S38, cs = [.int .i64 y.f0, .int .i64 y.f1] ∧ wfD y := by
 have h3 : Try.prog.cellsOf 3 = 1 := by kernel_rfl
 have hT : Try.prog.cellsOf 38 = 2 := by kernel_rfl
 obtain ⟨xs, m, _, hx, hl4, hlen, hg⟩ := DataW.trod_struct Try.underlying38 h
 match cs, hl4.trans hT with
 | [c0, c1], _ =>
  have e0 : DataW.trod enc Try.prog W base sp held m 3 [c0] = xs[0]? := by
   have := hg 0 _ rfl
   simpa [h3] using this
  have e1 : DataW.trod enc Try.prog W base sp held m 3 [c1] = xs[1]? := by
   have := hg 1 _ rfl
   simpa [h3] using this
  obtain ⟨a0, g0, _, wf0⟩ := DataW.trod_int Try.underlying3 (e0.trans (List.getElem?_eq_getElem (show 0 < xs.length by rw [hlen]; decide)))
  obtain rfl : c0 = .int .i64 a0 := by simpa using g0
  obtain ⟨a1, g1, _, wf1⟩ := DataW.trod_int Try.underlying3 (e1.trans (List.getElem?_eq_getElem (show 1 < xs.length by rw [hlen]; decide)))
  obtain rfl : c1 = .int .i64 a1 := by simpa using g1
  exact ⟨⟨a0, a1⟩, rfl, wf0, wf1⟩
theorem in_ints {c0 : Value} {x : DataW H × List MemPlace} {n : Nat} (h : DataW.trod enc Try.prog W base sp held n 23 [c0] = some x) :
  ∃ (A : Option Addr) (c : Nat) (l : List Int), c0 = .slice A l.length c ∧ l.length ≤ c ∧ Kd.C (Kd.int .i64) W A l.length l ∧ ∀ y ∈ l, (Lit.int .i64 y).wf = true := by
 have hce : Try.prog.cellsOf 3 = 1 := by kernel_rfl
 rcases DataW.trod_slice Try.underlying23 h with ⟨hcs, _⟩ | ⟨ad, len, cap, elems, rest, n, _, hcs, _, _, hl, hm, hel, hget, _⟩
 ·simp at hcs
  subst hcs
  exact ⟨none, 0, [], rfl, Nat.le_refl _, b9 _ _, by simp⟩
 ·simp at hcs
  subst hcs
  have key : ∀ i, i < len → ∃ y : Int, ((Lit.int .i64 y).wf = true) ∧ ∀ j u, ([Value.int .i64 y])[j]? = some u → W.cell? (ad.add (i * 1 + j)) = some u := by
   intro i hi
   have h1 := hget i hi
   rw [hce] at h1
   obtain ⟨cs, hc, ht⟩ := Option.bind_eq_some_iff.mp (h1.trans (List.getElem?_eq_getElem (show i < elems.length by omega)))
   obtain ⟨y, rfl, hP⟩ := one_int ht
   obtain ⟨_, _, hat⟩ := World.cells?_some hc
   refine ⟨y, hP, fun j u hj => ?_⟩
   have hjz : j < 1 := by
    have := (List.getElem?_eq_some_iff.1 hj).1
    simpa using this
   rw [← Go.Deep.add_add, hat j hjz, hj]
  obtain ⟨f, hf1, hf2⟩ : ∃ f : Nat → Int, (∀ i, i < len → (fun y => (Lit.int .i64 y).wf = true) (f i)) ∧ ∀ i, i < len → ∀ j u, ((fun y : Int => [Value.int .i64 y]) (f i))[j]? = some u → W.cell? (ad.add (i * 1 + j)) = some u :=
   ⟨fun i => if h : i < len then Classical.choose (key i h) else 0, fun i hi => by simp only [dif_pos hi]; exact (Classical.choose_spec (key i hi)).1, fun i hi => by simp only [dif_pos hi]; exact (Classical.choose_spec (key i hi)).2⟩
  refine ⟨some ad, cap, (List.range len).map f, by simp, by simpa using hl, ?_, ?_⟩
  ·refine ⟨rfl, by simp; simp only [maxLen] at hm; omega, fun _ => ⟨ad, rfl, fun j q hq => ?_⟩⟩
   have hj : j < len := by
    have := (List.getElem?_eq_some_iff.1 hq).1
    simpa using this
   obtain rfl : f j = q := by
    rw [List.getElem?_map, List.getElem?_range hj] at hq
    simpa using hq
   exact ⟨(fun y : Int => [Value.int .i64 y]) (f j), rfl, rfl, fun i u hu => hf2 j hj i u hu⟩
  ·intro y hy
   obtain ⟨i, hi, rfl⟩ := List.mem_map.1 hy
   exact hf1 i (List.mem_range.1 hi)
theorem in_decs {c0 : Value} {x : DataW H × List MemPlace} {n : Nat} (h : DataW.trod enc Try.prog W base sp held n 24 [c0] = some x) :
  ∃ (A : Option Addr) (c : Nat) (l : List S38), c0 = .slice A l.length c ∧ l.length ≤ c ∧ Kd.C k38 W A l.length l ∧ ∀ y ∈ l, wfD y := by
 have hce : Try.prog.cellsOf 38 = 2 := by kernel_rfl
 rcases DataW.trod_slice Try.underlying24 h with ⟨hcs, _⟩ | ⟨ad, len, cap, elems, rest, n, _, hcs, _, _, hl, hm, hel, hget, _⟩
 ·simp at hcs
  subst hcs
  exact ⟨none, 0, [], rfl, Nat.le_refl _, b9 _ _, by simp⟩
 ·simp at hcs
  subst hcs
  have key : ∀ i, i < len → ∃ y : S38, (wfD y) ∧ ∀ j u, ([Value.int .i64 y.f0, Value.int .i64 y.f1])[j]? = some u → W.cell? (ad.add (i * 2 + j)) = some u := by
   intro i hi
   have h1 := hget i hi
   rw [hce] at h1
   obtain ⟨cs, hc, ht⟩ := Option.bind_eq_some_iff.mp (h1.trans (List.getElem?_eq_getElem (show i < elems.length by omega)))
   obtain ⟨y, rfl, hP⟩ := one_dec ht
   obtain ⟨_, _, hat⟩ := World.cells?_some hc
   refine ⟨y, hP, fun j u hj => ?_⟩
   have hjz : j < 2 := by
    have := (List.getElem?_eq_some_iff.1 hj).1
    simpa using this
   rw [← Go.Deep.add_add, hat j hjz, hj]
  obtain ⟨f, hf1, hf2⟩ : ∃ f : Nat → S38, (∀ i, i < len → (fun y => wfD y) (f i)) ∧ ∀ i, i < len → ∀ j u, ((fun y : S38 => [Value.int .i64 y.f0, Value.int .i64 y.f1]) (f i))[j]? = some u → W.cell? (ad.add (i * 2 + j)) = some u :=
   ⟨fun i => if h : i < len then Classical.choose (key i h) else z38, fun i hi => by simp only [dif_pos hi]; exact (Classical.choose_spec (key i hi)).1, fun i hi => by simp only [dif_pos hi]; exact (Classical.choose_spec (key i hi)).2⟩
  refine ⟨some ad, cap, (List.range len).map f, by simp, by simpa using hl, ?_, ?_⟩
  ·refine ⟨rfl, by simp; simp only [maxLen] at hm; omega, fun _ => ⟨ad, rfl, fun j q hq => ?_⟩⟩
   have hj : j < len := by
    have := (List.getElem?_eq_some_iff.1 hq).1
    simpa using this
   obtain rfl : f j = q := by
    rw [List.getElem?_map, List.getElem?_range hj] at hq
    simpa using hq
   exact ⟨(fun y : S38 => [Value.int .i64 y.f0, Value.int .i64 y.f1]) (f j), rfl, k38_mk W (f j), fun i u hu => hf2 j hj i u hu⟩
  ·intro y hy
   obtain ⟨i, hi, rfl⟩ := List.mem_map.1 hy
   exact hf1 i (List.mem_range.1 hi)
theorem one_node {cs : List Value} {x : DataW H × List MemPlace} {n : Nat} (h : DataW.trod enc Try.prog W base sp held n 30 cs = some x) : ∃ y : S30, cs.length = 4 ∧ k30.K W y cs ∧ wfN y := by
 have h3 : Try.prog.cellsOf 3 = 1 := by kernel_rfl
 have h29 : Try.prog.cellsOf 23 = 1 := by kernel_rfl
 have h30 : Try.prog.cellsOf 24 = 1 := by kernel_rfl
 have hT : Try.prog.cellsOf 30 = 4 := by kernel_rfl
 obtain ⟨xs, m, _, hx, hl4, hlen, hg⟩ := DataW.trod_struct Try.underlying30 h
 match cs, hl4.trans hT with
 | [c0, c1, c2, c3], _ =>
  have e0 : DataW.trod enc Try.prog W base sp held m 3 [c0] = xs[0]? := by
   have := hg 0 _ rfl
   simpa [h3] using this
  have e1 : DataW.trod enc Try.prog W base sp held m 23 [c1] = xs[1]? := by
   have := hg 1 _ rfl
   simpa [h29] using this
  have e2 : DataW.trod enc Try.prog W base sp held m 23 [c2] = xs[2]? := by
   have := hg 2 _ rfl
   simpa [h29] using this
  have e3 : DataW.trod enc Try.prog W base sp held m 24 [c3] = xs[3]? := by
   have := hg 3 _ rfl
   simpa [h30] using this
  obtain ⟨a0, g0, w0⟩ := one_int (e0.trans (List.getElem?_eq_getElem (show 0 < xs.length by rw [hlen]; decide)))
  obtain rfl : c0 = .int .i64 a0 := by simpa using g0
  obtain ⟨A1, d1, l1, rfl, hl1, hC1, w1⟩ := in_ints (e1.trans (List.getElem?_eq_getElem (show 1 < xs.length by rw [hlen]; decide)))
  obtain ⟨A2, d2, l2, rfl, hl2, hC2, w2⟩ := in_ints (e2.trans (List.getElem?_eq_getElem (show 2 < xs.length by rw [hlen]; decide)))
  obtain ⟨A3, d3, l3, rfl, hl3, hC3, w3⟩ := in_decs (e3.trans (List.getElem?_eq_getElem (show 3 < xs.length by rw [hlen]; decide)))
  exact ⟨⟨a0, l1, l2, l3⟩, rfl, k30_mk W ⟨a0, l1, l2, l3⟩ hl1 hC1 hl2 hC2 hl3 hC3, w0, w1, w2, w3⟩
theorem open_nodes {v : Value} {d : DataW H} {p : List MemPlace} (hv : Value.okWide Try.prog W r b0 22 v) (h : DataW.Trod enc Try.prog W base sp held 22 v d p) :
  ∃ (A : Option Addr) (c : Nat) (l : List S30), v = .slice A l.length c ∧ l.length ≤ c ∧ Kd.C k30 W A l.length l ∧ ∀ y ∈ l, wfN y := by
 have hce : Try.prog.cellsOf 30 = 4 := by kernel_rfl
 obtain ⟨a, len, cap, rfl⟩ := okWide_slice Try.underlying22 hv
 obtain ⟨fuel, hf⟩ := h
 rcases DataW.trod_slice Try.underlying22 hf with ⟨hcs, _⟩ | ⟨ad, l, c, elems, rest, n, _, hcs, _, _, hl, hm, hel, hget, _⟩
 ·simp [Value.cells] at hcs
  obtain ⟨rfl, rfl, rfl⟩ := hcs
  exact ⟨none, 0, [], rfl, Nat.le_refl _, b9 _ _, by simp⟩
 ·simp [Value.cells] at hcs
  obtain ⟨rfl, rfl, rfl⟩ := hcs
  have key : ∀ i, i < len → ∃ y : S30 × List Value, (wfN y.1 ∧ y.2.length = 4 ∧ k30.K W y.1 y.2) ∧ ∀ j u, y.2[j]? = some u → W.cell? (ad.add (i * 4 + j)) = some u := by
   intro i hi
   have h1 := hget i hi
   rw [hce] at h1
   obtain ⟨cs, hc, ht⟩ := Option.bind_eq_some_iff.mp (h1.trans (List.getElem?_eq_getElem (show i < elems.length by omega)))
   obtain ⟨y, hn, hK, hP⟩ := one_node ht
   obtain ⟨_, _, hat⟩ := World.cells?_some hc
   refine ⟨(y, cs), ⟨hP, hn, hK⟩, fun j u hj => ?_⟩
   have hjz : j < 4 := by
    have h9 : j < cs.length := (List.getElem?_eq_some_iff.1 hj).1
    omega
   rw [← Go.Deep.add_add, hat j hjz, hj]
  obtain ⟨f, hf1, hf2⟩ : ∃ f : Nat → S30 × List Value, (∀ i, i < len → (wfN (f i).1 ∧ (f i).2.length = 4 ∧ k30.K W (f i).1 (f i).2)) ∧ ∀ i, i < len → ∀ j u, (f i).2[j]? = some u → W.cell? (ad.add (i * 4 + j)) = some u :=
   ⟨fun i => if h : i < len then Classical.choose (key i h) else (z30, []), fun i hi => by simp only [dif_pos hi]; exact (Classical.choose_spec (key i hi)).1, fun i hi => by simp only [dif_pos hi]; exact (Classical.choose_spec (key i hi)).2⟩
  refine ⟨some ad, cap, (List.range len).map fun i => (f i).1, by simp, by simpa using hl, ?_, ?_⟩
  ·refine ⟨rfl, by simp; simp only [maxLen] at hm; omega, fun _ => ⟨ad, rfl, fun j q hq => ?_⟩⟩
   have hj : j < len := by
    have := (List.getElem?_eq_some_iff.1 hq).1
    simpa using this
   obtain rfl : (f j).1 = q := by
    rw [List.getElem?_map, List.getElem?_range hj] at hq
    simpa using hq
   exact ⟨(f j).2, (hf1 j hj).2.1, (hf1 j hj).2.2, fun i u hu => hf2 j hj i u hu⟩
  ·intro y hy
   obtain ⟨i, hi, rfl⟩ := List.mem_map.1 hy
   exact (hf1 i (List.mem_range.1 hi)).1
theorem open_ints {v : Value} {d : DataW H} {p : List MemPlace} (hv : Value.okWide Try.prog W r b0 23 v) (h : DataW.Trod enc Try.prog W base sp held 23 v d p) :
  ∃ (A : Option Addr) (c : Nat) (l : List Int), v = .slice A l.length c ∧ l.length ≤ c ∧ Kd.C (Kd.int .i64) W A l.length l ∧ ∀ y ∈ l, (Lit.int .i64 y).wf = true := by
 obtain ⟨a, len, cap, rfl⟩ := okWide_slice Try.underlying23 hv
 obtain ⟨fuel, hf⟩ := h
 have hf' : DataW.trod enc Try.prog W base sp held fuel 23 [.slice a len cap] = some (d, p) := by simpa [Value.cells] using hf
 exact in_ints hf'
theorem open_decs {v : Value} {d : DataW H} {p : List MemPlace} (hv : Value.okWide Try.prog W r b0 24 v) (h : DataW.Trod enc Try.prog W base sp held 24 v d p) :
  ∃ (A : Option Addr) (c : Nat) (l : List S38), v = .slice A l.length c ∧ l.length ≤ c ∧ Kd.C k38 W A l.length l ∧ ∀ y ∈ l, wfD y := by
 obtain ⟨a, len, cap, rfl⟩ := okWide_slice Try.underlying24 hv
 obtain ⟨fuel, hf⟩ := h
 have hf' : DataW.trod enc Try.prog W base sp held fuel 24 [.slice a len cap] = some (d, p) := by simpa [Value.cells] using hf
 exact in_decs hf'
end
set_option maxRecDepth 100000 in
theorem lifted (os : Os) (started : os.Started) (H : Type) (enc : TypeId × Value → H) :
  ReturnsInHanded {} Try.checked os 3 .any (Rows.tightTellsSpec.pre6 enc Try.prog Try.f3 Rows.tightTellsRow.domain false) (Rows.tightTellsSpec.post enc Try.prog Try.f3 false true false false) := by
 refine returnsInHanded_of_change_sized (C := Try.checked) own started (by kernel_rfl) Try.func3
  (ChangeSpec.witness6 (enc := enc) (C := Try.checked) false ⟨#[], #[.slice none 0 0, .slice none 0 0, .slice none 0 0], []⟩ 8 (by kernel_rfl) (by kernel_rfl) (by kernel_rfl) (by kernel_rfl)) ?_
 intro W base args ds gs before hval0 hW hcnd hsz0 _
 have hval : ∀ (j : Nat) t v, Try.f3.params[j]? = some t → args[j]? = some v → Value.okWide Try.prog W .any base t v := hval0
 have hW' := hW
 obtain ⟨p, q, hA0, hV, rfl, hfz, hnd⟩ := hW
 have hA : DataW.TrodAll enc Try.prog W 0 (fun _ => true) true Try.f3.params.toList args.toList ds p := hA0
 rw [Try.params3] at hA hval
 obtain ⟨v0, vs0, d0, ds0, p0, q0, hargs, rfl, rfl, h0, r0⟩ := trodAll_cons hA
 obtain ⟨v1, vs1, d1, ds1, p1, q1, rfl, rfl, rfl, h1, r1⟩ := trodAll_cons r0
 obtain ⟨v2, vs2, d2, ds2, p2, q2, rfl, rfl, rfl, h2, r2⟩ := trodAll_cons r1
 obtain ⟨rfl, rfl, rfl⟩ := trodAll_nil r2
 obtain rfl : args = #[v0, v1, v2] := by cases args; simp_all
 obtain ⟨rfl, rfl⟩ := trodVars_none hV
 have k0 := h0
 have lt0 : ∀ x ∈ p0, x.block < W.heap.size := by obtain ⟨m, hm⟩ := k0; exact DataW.trod_lt m _ _ _ hm
 have k1 := h1
 have lt1 : ∀ x ∈ p1, x.block < W.heap.size := by obtain ⟨m, hm⟩ := k1; exact DataW.trod_lt m _ _ _ hm
 have k2 := h2
 have lt2 : ∀ x ∈ p2, x.block < W.heap.size := by obtain ⟨m, hm⟩ := k2; exact DataW.trod_lt m _ _ _ hm
 obtain ⟨A0, c0, l0, rfl, hc0, hC0, hP0⟩ := open_nodes (hval 0 22 v0 rfl rfl) h0
 obtain ⟨A1, c1, l1, rfl, hc1, hC1, hP1⟩ := open_ints (hval 1 23 v1 rfl rfl) h1
 obtain ⟨A2, c2, l2, rfl, hc2, hC2, hP2⟩ := open_decs (hval 2 24 v2 rfl rfl) h2
 clear hA0 hval0 hsz0
 obtain ⟨K_, hK_⟩ := Pure.TightTells l0 hP0 l1 l2 hP2
 refine (Xal.calls K_ A0 c0 l0 A1 c1 l1 A2 c2 l2 true W hC0 hc0 hC1 hc1 hC2 hc2 hK_).mono fun e W' ⟨he, bel⟩ => ?_
 subst he
 exact ⟨_, rfl, _, _, _, [], _, [], hW', trodAll_mk1 (shut_bool Try.underlying4 _), (trodAll_cons_mk (Below.trod laidOut (by kernel_rfl) (of_decide_eq_true (by kernel_rfl)) k0 bel lt0) (trodAll_cons_mk (Below.trod laidOut (by kernel_rfl) (of_decide_eq_true (by kernel_rfl)) k1 bel lt1) (trodAll_cons_mk (Below.trod laidOut (by kernel_rfl) (of_decide_eq_true (by kernel_rfl)) k2 bel lt2) trodAll_mk0))), rfl, bel.frame _, fun h => by cases h⟩
theorem over : Rows.tightTellsRow.holds Try.pinned (OpenSpec.ofChange Rows.tightTellsSpec) :=
 OpenClaim.holds_of_wide 3 Try.f3 rfl rfl rfl rfl rfl rfl rfl ⟨rfl, rfl, rfl, rfl, rfl⟩ rfl rfl rfl rfl rfl (by kernel_rfl) Try.func3 (by kernel_rfl)
  (of_decide_eq_true (by kernel_rfl)) (by unfold Func.isWrapper; first | (rw [if_pos (by decide +kernel)]; kernel_rfl) | (rw [if_neg (by decide +kernel)]; exact ⟨rfl, rfl⟩))
  (fun os started H enc _ => lifted os started H enc)
theorem proved : Rows.TightTellsSaid := over
#print axioms proved
end Go.Proofs.Ytecdklheppcihaa.tightTells
namespace Go.Proofs.Ytecdklheppcihaa
theorem tightTells_holds : Rows.TightTellsSaid := tightTells.proved
end Go.Proofs.Ytecdklheppcihaa
