/- Words and walks, shortened by a program: what this claim's functions answer, and that other memory stays. -/
import Derived.Test.YtecdklheppcihaaProg
import Derived.Below
import Derived.Deep.Draws
import Derived.Deep.AppendLies
import Derived.Maps.AppendAt
import Derived.OwnWalk
import Derived.Laws.BytesArg
import Derived.Laws.MakeOwn
import Derived.Laws.OwnMore
import Derived.Deep.OwnRows
import Derived.Tactics
import Derived.Lib.ConvBytes
import Derived.Laws.Slices
import Derived.WalkKit
import Derived.KernelRfl
import Derived.RowKit3
import Derived.Deep.LoopGhost
import Derived.Deep.QuietTactic
import Derived.BigQuiet
import Derived.WideLaws
import Derived.Deep.DeepCutAuto
import Derived.Deep.CutBlock
import Derived.Deep.RegionHeld3
import Derived.Laws.Rows
import Derived.Lib.AppendStr
import Derived.ArgAppend
import Derived.Laws.IdiomCopy
import Derived.OrdersHeld
import Derived.Laws.BitsLemmas
import Derived.RowKit
import Derived.Lib.SliceRun
import Derived.Lib.SlBytesConst
import Derived.WalkMore
import Derived.Lib.SlBuf
import Derived.Lib.MakeNoZero
import Derived.Laws.Externs
import Derived.Laws.MathBits
import Derived.Test.YtecdklheppcihaaSTightTellsw
namespace Go.Proofs.Ytecdklheppcihaa.HTightTells
open Go.RowKit Go.Proofs.YtecdklheppcihaaW.PrintWords Go.Proofs.YtecdklheppcihaaW.PrintWords.Kd Go.Proofs.YtecdklheppcihaaW.PrintLast Go.Proofs.YtecdklheppcihaaW.PrintMore Go.Proofs.YtecdklheppcihaaW.PrintMore.Kd
attribute [local go_sem] Xbp Xbn Xbu Xbt Xbg Xbf Xbo Xbm
set_option linter.unusedVariables false
set_option linter.unusedSimpArgs false
def errW : Option Int → Value
 | none => .nilIface
 | some c => .iface 0 (.int .i64 c)
theorem Xdh : errW none = .nilIface := rfl
theorem Xdg (c : Int) : errW (some c) = .iface 0 (.int .i64 c) := rfl
theorem Xcm : (Try.prog.info? 3).map (fun i => (i.zero, i.size, i.bytes)) = some (some (.int .i64 0), 1, 8) := by kernel_rfl
theorem info22 : (Try.prog.info? 22).map (fun i => (i.zero, i.size, i.bytes)) = some (some (.slice none 0 0), 1, 24) := by kernel_rfl
theorem Xck : (Try.prog.info? 30).map (fun i => (i.zero, i.size, i.bytes)) = some (some (.agg #[(.int .i64 0), (.slice none 0 0), (.slice none 0 0), (.slice none 0 0)]), 4, 80) := by kernel_rfl
theorem Xdo : (Try.prog.info? 38).map (fun i => (i.zero, i.size, i.bytes)) = some (some (.agg #[(.int .i64 0), (.int .i64 0)]), 2, 16) := by kernel_rfl
structure S38 where
 f0 : Int
 f1 : Int
def z38 : S38 := ⟨(0 : Int), (0 : Int)⟩
def k38 : Kd S38 := Kd.iso (Kd.pair (Kd.int .i64) (Kd.int .i64)) (fun x : S38 => (x.f0, x.f1))
theorem k38_heap : Kd.Heap k38 := Kd.heap_iso _ (Kd.heap_pair (Kd.heap_int .i64) (Kd.heap_int .i64))
theorem k38_open {w : World} {x : S38} {cs : List Value} (h : k38.K w x cs) : cs = [.int .i64 x.f0, .int .i64 x.f1] := by
 obtain ⟨_, _, rfl, rfl, rfl⟩ := h
 exact rfl
theorem k38_mk (w : World) (x : S38)  : k38.K w x [.int .i64 x.f0, .int .i64 x.f1] := ⟨[.int .i64 x.f0], [.int .i64 x.f1], rfl, rfl, rfl⟩
theorem Xdn (w : World) (base : Nat) (ok : Nat → Prop) (x : S38)  : k38.M w base ok x [.int .i64 x.f0, .int .i64 x.f1] := ⟨[.int .i64 x.f0], [.int .i64 x.f1], rfl, rfl, rfl⟩
def Xt (xs : List S38) (i : Int) : S38 := xs.getD i.toNat z38
theorem Xeb {w : World} {A : Option Addr} {n : Nat} {xs : List S38} (h : Kd.C k38 w A n xs) (i : Int) (h0 : 0 ≤ i) (h1 : i < n) : ∃ ad , A = some ad ∧ w.cell? (ad.add (i.toNat * 2)) = some (.int .i64 (Xt xs i).f0) ∧ w.cell? ⟨(ad.add (i.toNat * 2)).block, (ad.add (i.toNat * 2)).off + 1, none⟩ = some (.int .i64 (Xt xs i).f1) := by
 obtain ⟨ad, c, e, _, hK, hc0⟩ := bH h z38 i h0 h1
 have hc : ∀ j u, c[j]? = some u → w.cell? (ad.add (i.toNat * 2 + j)) = some u := hc0
 obtain rfl := k38_open hK
 exact ⟨ad, e, hc 0 _ rfl, by rw [← Xa1 _ _ 1 (by omega)]; exact hc 1 _ rfl⟩
structure S30 where
 f0 : Int
 f1 : (List Int)
 f2 : (List Int)
 f3 : (List S38)
def z30 : S30 := ⟨(0 : Int), ([] : List Int), ([] : List Int), ([] : List S38)⟩
def k30 : Kd S30 := Kd.iso (Kd.pair (Kd.int .i64) (Kd.pair (Kd.slice 3 (Kd.int .i64)) (Kd.pair (Kd.slice 3 (Kd.int .i64)) (Kd.slice 38 k38)))) (fun x : S30 => (x.f0, x.f1, x.f2, x.f3))
theorem Xdu : Kd.Heap k30 := Kd.heap_iso _ (Kd.heap_pair (Kd.heap_int .i64) (Kd.heap_pair (Kd.heap_slice 3 (Kd.heap_int .i64)) (Kd.heap_pair (Kd.heap_slice 3 (Kd.heap_int .i64)) (Kd.heap_slice 38 k38_heap))))
theorem Xc1 {w : World} {x : S30} {cs : List Value} (h : k30.K w x cs) : ∃ A1 c1 A2 c2 A3 c3, cs = [.int .i64 x.f0, .slice A1 x.f1.length c1, .slice A2 x.f2.length c2, .slice A3 x.f3.length c3] ∧ x.f1.length ≤ c1 ∧ (Kd.int .i64).C w A1 x.f1.length x.f1 ∧ x.f2.length ≤ c2 ∧ (Kd.int .i64).C w A2 x.f2.length x.f2 ∧ x.f3.length ≤ c3 ∧ k38.C w A3 x.f3.length x.f3 := by
 obtain ⟨_, _, rfl, rfl, ⟨_, _, rfl, ⟨A1, c1, rfl, l1, g1⟩, ⟨_, _, rfl, ⟨A2, c2, rfl, l2, g2⟩, ⟨A3, c3, rfl, l3, g3⟩⟩⟩⟩ := h
 exact ⟨A1, c1, A2, c2, A3, c3, rfl, l1, g1, l2, g2, l3, g3⟩
theorem k30_openM {w : World} {base : Nat} {ok : Nat → Prop} {x : S30} {cs : List Value} (h : k30.M w base ok x cs) : ∃ v1 v2 v3, cs = [.int .i64 x.f0, v1, v2, v3] ∧ (Kd.int .i64).R 3 w base ok v1 x.f1 ∧ (Kd.int .i64).R 3 w base ok v2 x.f2 ∧ k38.R 38 w base ok v3 x.f3 := by
 obtain ⟨_, _, rfl, rfl, ⟨_, _, rfl, ⟨v1, rfl, g1⟩, ⟨_, _, rfl, ⟨v2, rfl, g2⟩, ⟨v3, rfl, g3⟩⟩⟩⟩ := h
 exact ⟨v1, v2, v3, rfl, g1, g2, g3⟩
theorem k30_mk (w : World) (x : S30) {A1 : Option Addr} {c1 : Nat} (l1 : x.f1.length ≤ c1) (g1 : (Kd.int .i64).C w A1 x.f1.length x.f1) {A2 : Option Addr} {c2 : Nat} (l2 : x.f2.length ≤ c2) (g2 : (Kd.int .i64).C w A2 x.f2.length x.f2) {A3 : Option Addr} {c3 : Nat} (l3 : x.f3.length ≤ c3) (g3 : k38.C w A3 x.f3.length x.f3) : k30.K w x [.int .i64 x.f0, .slice A1 x.f1.length c1, .slice A2 x.f2.length c2, .slice A3 x.f3.length c3] := ⟨[.int .i64 x.f0], [.slice A1 x.f1.length c1, .slice A2 x.f2.length c2, .slice A3 x.f3.length c3], rfl, rfl, ⟨[.slice A1 x.f1.length c1], [.slice A2 x.f2.length c2, .slice A3 x.f3.length c3], rfl, ⟨A1, c1, rfl, l1, g1⟩, ⟨[.slice A2 x.f2.length c2], [.slice A3 x.f3.length c3], rfl, ⟨A2, c2, rfl, l2, g2⟩, ⟨A3, c3, rfl, l3, g3⟩⟩⟩⟩
theorem k30_mkM (w : World) (base : Nat) (ok : Nat → Prop) (x : S30) {v1 : Value} (g1 : (Kd.int .i64).R 3 w base ok v1 x.f1) {v2 : Value} (g2 : (Kd.int .i64).R 3 w base ok v2 x.f2) {v3 : Value} (g3 : k38.R 38 w base ok v3 x.f3) : k30.M w base ok x [.int .i64 x.f0, v1, v2, v3] := ⟨[.int .i64 x.f0], [v1, v2, v3], rfl, rfl, ⟨[v1], [v2, v3], rfl, ⟨v1, rfl, g1⟩, ⟨[v2], [v3], rfl, ⟨v2, rfl, g2⟩, ⟨v3, rfl, g3⟩⟩⟩⟩
theorem Xca {W : World} {ok : Nat → Prop} {x : S30} {cs : List Value} (h : Kd.FK k30 W ok x cs) : ∃ A1 c1 A2 c2 A3 c3, cs = [.int .i64 x.f0, .slice A1 x.f1.length c1, .slice A2 x.f2.length c2, .slice A3 x.f3.length c3] ∧ x.f1.length ≤ c1 ∧ Kd.F (Kd.int .i64) W ok A1 x.f1.length x.f1 ∧ x.f2.length ≤ c2 ∧ Kd.F (Kd.int .i64) W ok A2 x.f2.length x.f2 ∧ x.f3.length ≤ c3 ∧ Kd.F k38 W ok A3 x.f3.length x.f3 := by
 obtain ⟨A1, c1, A2, c2, A3, c3, rfl, l1, _, l2, _, l3, _⟩ := Xc1 (bi h)
 exact ⟨A1, c1, A2, c2, A3, c3, rfl, l1, (fun W' hW => by obtain ⟨A1_, c1_, A2_, c2_, A3_, c3_, he, l1_, g1_, l2_, g2_, l3_, g3_⟩ := Xc1 (h W' hW); injection (Option.some.inj (show some (Value.slice A1 x.f1.length c1) = some (Value.slice A1_ x.f1.length c1_) from congrArg (fun l => l[1]?) he)) with ha_ _ _; rw [ha_]; exact g1_), l2, (fun W' hW => by obtain ⟨A1_, c1_, A2_, c2_, A3_, c3_, he, l1_, g1_, l2_, g2_, l3_, g3_⟩ := Xc1 (h W' hW); injection (Option.some.inj (show some (Value.slice A2 x.f2.length c2) = some (Value.slice A2_ x.f2.length c2_) from congrArg (fun l => l[2]?) he)) with ha_ _ _; rw [ha_]; exact g2_), l3, (fun W' hW => by obtain ⟨A1_, c1_, A2_, c2_, A3_, c3_, he, l1_, g1_, l2_, g2_, l3_, g3_⟩ := Xc1 (h W' hW); injection (Option.some.inj (show some (Value.slice A3 x.f3.length c3) = some (Value.slice A3_ x.f3.length c3_) from congrArg (fun l => l[3]?) he)) with ha_ _ _; rw [ha_]; exact g3_)⟩
theorem k30_mkF (W : World) (ok : Nat → Prop) (x : S30) {A1 : Option Addr} {c1 : Nat} (l1 : x.f1.length ≤ c1) (g1 : Kd.F (Kd.int .i64) W ok A1 x.f1.length x.f1) {A2 : Option Addr} {c2 : Nat} (l2 : x.f2.length ≤ c2) (g2 : Kd.F (Kd.int .i64) W ok A2 x.f2.length x.f2) {A3 : Option Addr} {c3 : Nat} (l3 : x.f3.length ≤ c3) (g3 : Kd.F k38 W ok A3 x.f3.length x.f3) : Kd.FK k30 W ok x [.int .i64 x.f0, .slice A1 x.f1.length c1, .slice A2 x.f2.length c2, .slice A3 x.f3.length c3] := fun W2 hW => k30_mk W2 x l1 (g1 W2 hW) l2 (g2 W2 hW) l3 (g3 W2 hW)
def Xa (xs : List S30) (i : Int) : S30 := xs.getD i.toNat z30
theorem Xb4 {w : World} {A : Option Addr} {n : Nat} {xs : List S30} (h : Kd.C k30 w A n xs) (i : Int) (h0 : 0 ≤ i) (h1 : i < n) : ∃ ad A1 c1 A2 c2 A3 c3, A = some ad ∧ w.cell? (ad.add (i.toNat * 4)) = some (.int .i64 (Xa xs i).f0) ∧ w.cell? ⟨(ad.add (i.toNat * 4)).block, (ad.add (i.toNat * 4)).off + 1, none⟩ = some (.slice A1 (Xa xs i).f1.length c1) ∧ w.cell? ⟨(ad.add (i.toNat * 4)).block, (ad.add (i.toNat * 4)).off + 2, none⟩ = some (.slice A2 (Xa xs i).f2.length c2) ∧ w.cell? ⟨(ad.add (i.toNat * 4)).block, (ad.add (i.toNat * 4)).off + 3, none⟩ = some (.slice A3 (Xa xs i).f3.length c3) ∧ (Xa xs i).f1.length ≤ c1 ∧ (Kd.int .i64).C w A1 (Xa xs i).f1.length (Xa xs i).f1 ∧ (Xa xs i).f2.length ≤ c2 ∧ (Kd.int .i64).C w A2 (Xa xs i).f2.length (Xa xs i).f2 ∧ (Xa xs i).f3.length ≤ c3 ∧ k38.C w A3 (Xa xs i).f3.length (Xa xs i).f3 := by
 obtain ⟨ad, c, e, _, hK, hc0⟩ := bH h z30 i h0 h1
 have hc : ∀ j u, c[j]? = some u → w.cell? (ad.add (i.toNat * 4 + j)) = some u := hc0
 obtain ⟨A1, c1, A2, c2, A3, c3, rfl, l1, g1, l2, g2, l3, g3⟩ := Xc1 hK
 exact ⟨ad, A1, c1, A2, c2, A3, c3, e, hc 0 _ rfl, by rw [← Xa1 _ _ 1 (by omega)]; exact hc 1 _ rfl, by rw [← Xa1 _ _ 2 (by omega)]; exact hc 2 _ rfl, by rw [← Xa1 _ _ 3 (by omega)]; exact hc 3 _ rfl, l1, g1, l2, g2, l3, g3⟩
def Xa5 (xs : List (List S30)) (i : Int) : (List S30) := xs.getD i.toNat ([] : List S30)
theorem at_L5 {w : World} {A : Option Addr} {n : Nat} {xs : List (List S30)} (h : Kd.C (Kd.slice 30 k30) w A n xs) (i : Int) (h0 : 0 ≤ i) (h1 : i < n) : ∃ ad A0 c0, A = some ad ∧ w.cell? (ad.add i.toNat) = some (.slice A0 (Xa5 xs i).length c0) ∧ (Xa5 xs i).length ≤ c0 ∧ k30.C w A0 (Xa5 xs i).length (Xa5 xs i) := by
 obtain ⟨ad, c, e, _, hK, hc0⟩ := bH h ([] : List S30) i h0 h1
 have hc : ∀ j u, c[j]? = some u → w.cell? (ad.add (i.toNat * 1 + j)) = some u := hc0
 obtain ⟨A0, c0, rfl, l0, g0⟩ := hK
 exact ⟨ad, A0, c0, e, by have hq := hc 0 _ rfl; rwa [Nat.mul_one, Nat.add_zero] at hq, l0, g0⟩
end Go.Proofs.Ytecdklheppcihaa.HTightTells
namespace Go.Proofs.Ytecdklheppcihaa.HTightTells
open Go.RowKit Go.Proofs.YtecdklheppcihaaW.PrintWords Go.Proofs.YtecdklheppcihaaW.PrintWords.Kd Go.Proofs.YtecdklheppcihaaW.PrintLast Go.Proofs.YtecdklheppcihaaW.PrintMore Go.Proofs.YtecdklheppcihaaW.PrintMore.Kd
set_option linter.unusedVariables false
theorem rdC {A : Option Addr} {n : Nat} {w W : World} {xs : List S30} (h : Kd.C k30 w A n xs) (hb : Below w.heap.size w W) (i : Int) (hn : n = xs.length := by rfl) (p : 0 ≤ i := by exact of_decide_eq_true (by first | (with_reducible assumption) | assumption)) (q : i < (xs.length : Int) := by exact of_decide_eq_true (by first | (with_reducible assumption) | assumption)) : ∃ ad A1 c1 A2 c2 A3 c3, A = some ad ∧ W.cell? (ad.add (i.toNat * 4)) = some (Value.int .i64 (Xa xs i).f0) ∧ W.cell? ⟨(ad.add (i.toNat * 4)).block, (ad.add (i.toNat * 4)).off + 1, none⟩ = some (.slice A1 (Xa xs i).f1.length c1) ∧ W.cell? ⟨(ad.add (i.toNat * 4)).block, (ad.add (i.toNat * 4)).off + 2, none⟩ = some (.slice A2 (Xa xs i).f2.length c2) ∧ W.cell? ⟨(ad.add (i.toNat * 4)).block, (ad.add (i.toNat * 4)).off + 3, none⟩ = some (.slice A3 (Xa xs i).f3.length c3) ∧ Aside0 ((Kd.int .i64).C w A1 (Xa xs i).f1.length (Xa xs i).f1) ∧ Aside0 ((Xa xs i).f1.length ≤ c1) ∧ Aside0 ((Kd.int .i64).C w A2 (Xa xs i).f2.length (Xa xs i).f2) ∧ Aside0 ((Xa xs i).f2.length ≤ c2) ∧ Aside0 ((k38).C w A3 (Xa xs i).f3.length (Xa xs i).f3) ∧ Aside0 ((Xa xs i).f3.length ≤ c3) ∧ (0 ≤ i) = True ∧ (i < (xs.length : Int)) = True := by
 subst hn
 obtain ⟨ad, A1, c1, A2, c2, A3, c3, e, x0, x1, x2, x3, l1, g1, l2, g2, l3, g3⟩ := Xb4 h i p q
 refine ⟨ad, A1, c1, A2, c2, A3, c3, e, (hb.cell (World.block_lt_of_cell? w _ x0)).trans x0, (hb.cell (World.block_lt_of_cell? w _ x1)).trans x1, (hb.cell (World.block_lt_of_cell? w _ x2)).trans x2, (hb.cell (World.block_lt_of_cell? w _ x3)).trans x3, ⟨g1⟩, ⟨l1⟩, ⟨g2⟩, ⟨l2⟩, ⟨g3⟩, ⟨l3⟩, eq_true p, eq_true q⟩
theorem rdC0 {A : Option Addr} {n : Nat} {w W : World} {xs : List S30} (h : Kd.C k30 w A n xs) (hb : Below w.heap.size w W) (hn : n = xs.length := by rfl) (q : (0 : Int) < (xs.length : Int) := by exact of_decide_eq_true (by first | (with_reducible assumption) | assumption)) : ∃ ad A1 c1 A2 c2 A3 c3, A = some ad ∧ W.cell? ad = some (Value.int .i64 (Xa xs 0).f0) ∧ W.cell? ⟨ad.block, ad.off + 1, none⟩ = some (.slice A1 (Xa xs 0).f1.length c1) ∧ W.cell? ⟨ad.block, ad.off + 2, none⟩ = some (.slice A2 (Xa xs 0).f2.length c2) ∧ W.cell? ⟨ad.block, ad.off + 3, none⟩ = some (.slice A3 (Xa xs 0).f3.length c3) ∧ Aside0 ((Kd.int .i64).C w A1 (Xa xs 0).f1.length (Xa xs 0).f1) ∧ Aside0 ((Xa xs 0).f1.length ≤ c1) ∧ Aside0 ((Kd.int .i64).C w A2 (Xa xs 0).f2.length (Xa xs 0).f2) ∧ Aside0 ((Xa xs 0).f2.length ≤ c2) ∧ Aside0 ((k38).C w A3 (Xa xs 0).f3.length (Xa xs 0).f3) ∧ Aside0 ((Xa xs 0).f3.length ≤ c3) ∧ ((0 : Int) ≤ 0) = True ∧ ((0 : Int) < (xs.length : Int)) = True ∧ (0 < xs.length) = True := by
 subst hn
 have p : (0 : Int) ≤ 0 := Int.le_refl _
 obtain ⟨ad, A1, c1, A2, c2, A3, c3, e, x0, x1, x2, x3, l1, g1, l2, g2, l3, g3⟩ := Xb4 h 0 p q
 rw [show ((0 : Int)).toNat * 4 = 0 from rfl, Addr.add_zero'] at x0 x1 x2 x3
 refine ⟨ad, A1, c1, A2, c2, A3, c3, e, (hb.cell (World.block_lt_of_cell? w _ x0)).trans x0, (hb.cell (World.block_lt_of_cell? w _ x1)).trans x1, (hb.cell (World.block_lt_of_cell? w _ x2)).trans x2, (hb.cell (World.block_lt_of_cell? w _ x3)).trans x3, ⟨g1⟩, ⟨l1⟩, ⟨g2⟩, ⟨l2⟩, ⟨g3⟩, ⟨l3⟩, eq_true p, eq_true q, eq_true (by omega)⟩
theorem rdN0 {A : Option Addr} {n c b0 : Nat} {W : World} {ok : Nat → Prop} {xs : List S30} (h : Kd.N k30 30 W b0 ok (.slice A n c) xs) (base : Nat) (q : (0 : Int) < (xs.length : Int) := by exact of_decide_eq_true (by first | (with_reducible assumption) | assumption)) : ∃ ad A1 c1 A2 c2 A3 c3, A = some ad ∧ W.cell? ad = some (Value.int .i64 (Xa xs 0).f0) ∧ W.cell? ⟨ad.block, ad.off + 1, none⟩ = some (.slice A1 (Xa xs 0).f1.length c1) ∧ W.cell? ⟨ad.block, ad.off + 2, none⟩ = some (.slice A2 (Xa xs 0).f2.length c2) ∧ W.cell? ⟨ad.block, ad.off + 3, none⟩ = some (.slice A3 (Xa xs 0).f3.length c3) ∧ Aside0 (Kd.V (Kd.int .i64) 3 W base (fun k => ok k ∧ some k ≠ (Value.slice A n c).ownBlock) (.slice A1 (Xa xs 0).f1.length c1) (Xa xs 0).f1) ∧ Aside0 (Kd.V (Kd.int .i64) 3 W base (fun k => ok k ∧ some k ≠ (Value.slice A n c).ownBlock) (.slice A2 (Xa xs 0).f2.length c2) (Xa xs 0).f2) ∧ Aside0 (Kd.V (k38) 38 W base (fun k => ok k ∧ some k ≠ (Value.slice A n c).ownBlock) (.slice A3 (Xa xs 0).f3.length c3) (Xa xs 0).f3) ∧ Aside0 ((Kd.int .i64).C W A1 (Xa xs 0).f1.length (Xa xs 0).f1) ∧ Aside0 ((Xa xs 0).f1.length ≤ c1) ∧ Aside0 ((Kd.int .i64).C W A2 (Xa xs 0).f2.length (Xa xs 0).f2) ∧ Aside0 ((Xa xs 0).f2.length ≤ c2) ∧ Aside0 ((k38).C W A3 (Xa xs 0).f3.length (Xa xs 0).f3) ∧ Aside0 ((Xa xs 0).f3.length ≤ c3) ∧ ((0 : Int) ≤ 0) = True ∧ ((0 : Int) < (xs.length : Int)) = True ∧ (0 < xs.length) = True := by
 have p : (0 : Int) ≤ 0 := Int.le_refl _
 have hn := (ar h).1
 obtain ⟨ad, A1, c1, A2, c2, A3, c3, rfl, x0, x1, x2, x3, l1, g1, l2, g2, l3, g3⟩ := Xb4 (ar h).2.2 0 p q
 obtain ⟨ce, hce, hM, hcc⟩ := bM h z30 0 p (by omega)
 obtain ⟨a1, d1, a2, d2, a3, d3, rfl, u1, e1, u2, e2, u3, e3⟩ := Xca hM
 have v1 := hcc 1 _ rfl
 rw [Xa1 _ _ 1 (by omega)] at v1
 replace v1 := Option.some.inj (v1.symm.trans x1)
 injection v1 with q1 _ q2
 rw [q1] at e1
 rw [q2] at u1
 clear q1 q2
 have v2 := hcc 2 _ rfl
 rw [Xa1 _ _ 2 (by omega)] at v2
 replace v2 := Option.some.inj (v2.symm.trans x2)
 injection v2 with q1 _ q2
 rw [q1] at e2
 rw [q2] at u2
 clear q1 q2
 have v3 := hcc 3 _ rfl
 rw [Xa1 _ _ 3 (by omega)] at v3
 replace v3 := Option.some.inj (v3.symm.trans x3)
 injection v3 with q1 _ q2
 rw [q1] at e3
 rw [q2] at u3
 clear q1 q2
 rw [show ((0 : Int)).toNat * 4 = 0 from rfl, Addr.add_zero'] at x0 x1 x2 x3
 exact ⟨ad, A1, c1, A2, c2, A3, c3, rfl, x0, x1, x2, x3, ⟨be u1 e1⟩, ⟨be u2 e2⟩, ⟨be u3 e3⟩, ⟨g1⟩, ⟨l1⟩, ⟨g2⟩, ⟨l2⟩, ⟨g3⟩, ⟨l3⟩, eq_true p, eq_true q, eq_true (by omega)⟩
theorem rdV0 {A : Option Addr} {n c b0 : Nat} {W : World} {ok : Nat → Prop} {xs : List S30} (h : Kd.V k30 30 W b0 ok (.slice A n c) xs) (base : Nat) (q : (0 : Int) < (xs.length : Int) := by exact of_decide_eq_true (by first | (with_reducible assumption) | assumption)) : ∃ ad A1 c1 A2 c2 A3 c3, A = some ad ∧ W.cell? ad = some (Value.int .i64 (Xa xs 0).f0) ∧ W.cell? ⟨ad.block, ad.off + 1, none⟩ = some (.slice A1 (Xa xs 0).f1.length c1) ∧ W.cell? ⟨ad.block, ad.off + 2, none⟩ = some (.slice A2 (Xa xs 0).f2.length c2) ∧ W.cell? ⟨ad.block, ad.off + 3, none⟩ = some (.slice A3 (Xa xs 0).f3.length c3) ∧ Aside0 (Kd.V (Kd.int .i64) 3 W base ok (.slice A1 (Xa xs 0).f1.length c1) (Xa xs 0).f1) ∧ Aside0 (Kd.V (Kd.int .i64) 3 W base ok (.slice A2 (Xa xs 0).f2.length c2) (Xa xs 0).f2) ∧ Aside0 (Kd.V (k38) 38 W base ok (.slice A3 (Xa xs 0).f3.length c3) (Xa xs 0).f3) ∧ Aside0 ((Kd.int .i64).C W A1 (Xa xs 0).f1.length (Xa xs 0).f1) ∧ Aside0 ((Xa xs 0).f1.length ≤ c1) ∧ Aside0 ((Kd.int .i64).C W A2 (Xa xs 0).f2.length (Xa xs 0).f2) ∧ Aside0 ((Xa xs 0).f2.length ≤ c2) ∧ Aside0 ((k38).C W A3 (Xa xs 0).f3.length (Xa xs 0).f3) ∧ Aside0 ((Xa xs 0).f3.length ≤ c3) ∧ ((0 : Int) ≤ 0) = True ∧ ((0 : Int) < (xs.length : Int)) = True ∧ (0 < xs.length) = True := by
 have p : (0 : Int) ≤ 0 := Int.le_refl _
 have hn := (av h).1
 obtain ⟨ad, A1, c1, A2, c2, A3, c3, rfl, x0, x1, x2, x3, l1, g1, l2, g2, l3, g3⟩ := Xb4 (av h).2.2 0 p q
 obtain ⟨ce, hce, hM, hcc⟩ := bW h z30 0 p (by omega)
 obtain ⟨a1, d1, a2, d2, a3, d3, rfl, u1, e1, u2, e2, u3, e3⟩ := Xca hM
 have v1 := hcc 1 _ rfl
 rw [Xa1 _ _ 1 (by omega)] at v1
 replace v1 := Option.some.inj (v1.symm.trans x1)
 injection v1 with q1 _ q2
 rw [q1] at e1
 rw [q2] at u1
 clear q1 q2
 have v2 := hcc 2 _ rfl
 rw [Xa1 _ _ 2 (by omega)] at v2
 replace v2 := Option.some.inj (v2.symm.trans x2)
 injection v2 with q1 _ q2
 rw [q1] at e2
 rw [q2] at u2
 clear q1 q2
 have v3 := hcc 3 _ rfl
 rw [Xa1 _ _ 3 (by omega)] at v3
 replace v3 := Option.some.inj (v3.symm.trans x3)
 injection v3 with q1 _ q2
 rw [q1] at e3
 rw [q2] at u3
 clear q1 q2
 rw [show ((0 : Int)).toNat * 4 = 0 from rfl, Addr.add_zero'] at x0 x1 x2 x3
 exact ⟨ad, A1, c1, A2, c2, A3, c3, rfl, x0, x1, x2, x3, ⟨be u1 e1⟩, ⟨be u2 e2⟩, ⟨be u3 e3⟩, ⟨g1⟩, ⟨l1⟩, ⟨g2⟩, ⟨l2⟩, ⟨g3⟩, ⟨l3⟩, eq_true p, eq_true q, eq_true (by omega)⟩
theorem rdD {A : Option Addr} {n : Nat} {w W : World} {xs : List S38} (h : Kd.C k38 w A n xs) (hb : Below w.heap.size w W) (i : Int) (hn : n = xs.length := by rfl) (p : 0 ≤ i := by exact of_decide_eq_true (by first | (with_reducible assumption) | assumption)) (q : i < (xs.length : Int) := by exact of_decide_eq_true (by first | (with_reducible assumption) | assumption)) : ∃ ad, A = some ad ∧ W.cell? (ad.add (i.toNat * 2)) = some (Value.int .i64 (Xt xs i).f0) ∧ W.cell? ⟨(ad.add (i.toNat * 2)).block, (ad.add (i.toNat * 2)).off + 1, none⟩ = some (Value.int .i64 (Xt xs i).f1) ∧ (0 ≤ i) = True ∧ (i < (xs.length : Int)) = True := by
 subst hn
 obtain ⟨ad, e, x0, x1⟩ := Xeb h i p q
 exact ⟨ad, e, (hb.cell (World.block_lt_of_cell? w _ x0)).trans x0, (hb.cell (World.block_lt_of_cell? w _ x1)).trans x1, eq_true p, eq_true q⟩
theorem fN4 {α : Type} {d : Kd α} {e base g i0 i1 i2 i3 : Nat} {ok : Nat → Prop} {w : World} {v u0 u1 u2 u3 : Value} {xs : List α} (h : Kd.N d e w base ok v xs) (hn : ∀ k, ok k → k ≠ g := by exact fun _ hk => hk.2) : Kd.N d e ((((w.setCell ⟨g, i0, none⟩ u0).setCell ⟨g, i1, none⟩ u1).setCell ⟨g, i2, none⟩ u2).setCell ⟨g, i3, none⟩ u3) base ok v xs := (bN (p := ⟨g, i3, none⟩) (bN (p := ⟨g, i2, none⟩) (bN (p := ⟨g, i1, none⟩) (bN (p := ⟨g, i0, none⟩) h hn u0) hn u1) hn u2) hn u3)
theorem fR2 {α : Type} {d : Kd α} {e base g i0 i1 : Nat} {ok : Nat → Prop} {w : World} {v u0 u1 : Value} {xs : List α} (h : d.R e w base ok v xs) (hn : ∀ k, ok k → k ≠ g := by exact fun _ hk => hk.2) : d.R e ((w.setCell ⟨g, i0, none⟩ u0).setCell ⟨g, i1, none⟩ u1) base ok v xs := (aX (p := ⟨g, i1, none⟩) (aX (p := ⟨g, i0, none⟩) h hn u0) hn u1)
theorem fR4 {α : Type} {d : Kd α} {e base g i0 i1 i2 i3 : Nat} {ok : Nat → Prop} {w : World} {v u0 u1 u2 u3 : Value} {xs : List α} (h : d.R e w base ok v xs) (hn : ∀ k, ok k → k ≠ g := by exact fun _ hk => hk.2) : d.R e ((((w.setCell ⟨g, i0, none⟩ u0).setCell ⟨g, i1, none⟩ u1).setCell ⟨g, i2, none⟩ u2).setCell ⟨g, i3, none⟩ u3) base ok v xs := (aX (p := ⟨g, i3, none⟩) (aX (p := ⟨g, i2, none⟩) (aX (p := ⟨g, i1, none⟩) (aX (p := ⟨g, i0, none⟩) h hn u0) hn u1) hn u2) hn u3)
theorem fR5 {α : Type} {d : Kd α} {e base g i0 i1 i2 i3 i4 : Nat} {ok : Nat → Prop} {w : World} {v u0 u1 u2 u3 u4 : Value} {xs : List α} (h : d.R e w base ok v xs) (hn : ∀ k, ok k → k ≠ g := by exact fun _ hk => hk.2) : d.R e (((((w.setCell ⟨g, i0, none⟩ u0).setCell ⟨g, i1, none⟩ u1).setCell ⟨g, i2, none⟩ u2).setCell ⟨g, i3, none⟩ u3).setCell ⟨g, i4, none⟩ u4) base ok v xs := (aX (p := ⟨g, i4, none⟩) (aX (p := ⟨g, i3, none⟩) (aX (p := ⟨g, i2, none⟩) (aX (p := ⟨g, i1, none⟩) (aX (p := ⟨g, i0, none⟩) h hn u0) hn u1) hn u2) hn u3) hn u4)
theorem fV4 {α : Type} {d : Kd α} {e base g i0 i1 i2 i3 : Nat} {ok : Nat → Prop} {w : World} {v u0 u1 u2 u3 : Value} {xs : List α} (h : Kd.V d e w base ok v xs) (hn : ∀ k, ok k → k ≠ g := by exact fun _ hk => hk.2) : Kd.V d e ((((w.setCell ⟨g, i0, none⟩ u0).setCell ⟨g, i1, none⟩ u1).setCell ⟨g, i2, none⟩ u2).setCell ⟨g, i3, none⟩ u3) base ok v xs := (bL (p := ⟨g, i3, none⟩) (bL (p := ⟨g, i2, none⟩) (bL (p := ⟨g, i1, none⟩) (bL (p := ⟨g, i0, none⟩) h hn u0) hn u1) hn u2) hn u3)
theorem gN4 {α : Type} {d : Kd α} {e base g i0 i1 i2 i3 : Nat} {ok : Nat → Prop} {w : World} {v u0 u1 u2 u3 : Value} {xs : List α} (h : Kd.N d e w base ok v xs) (hn : ∀ k, ok k → k ≠ g := by exact fun _ hk => hk.2) : Kd.N d e ((((w.setCell ⟨g, i0, none⟩ u0).setCell ⟨g, i1, none⟩ u1).setCell ⟨g, i2, none⟩ u2).setCell ⟨g, i3, none⟩ u3) base ok v xs := (bN (p := ⟨g, i3, none⟩) (bN (p := ⟨g, i2, none⟩) (bN (p := ⟨g, i1, none⟩) (bN (p := ⟨g, i0, none⟩) h hn u0) hn u1) hn u2) hn u3)
theorem gT2 {α : Type} {d : Kd α} {e base g t i0 i1 : Nat} {ok : Nat → Prop} {w : World} {v u0 u1 : Value} {xs : List α} {cells : Array Value} (h : d.R e w base ok v xs) (hb : w.heap[g]? = some (.cells cells t (0, 0))) (ht : ∀ q, q ∈ e :: d.E → q ≠ t := by decide) : d.R e ((w.setCell ⟨g, i0, none⟩ u0).setCell ⟨g, i1, none⟩ u1) base ok v xs := af (aX (p := ⟨g, i1, none⟩) (aX (p := ⟨g, i0, none⟩) (al h hb ht) (fun _ hk => hk.2) u0) (fun _ hk => hk.2) u1) (fun _ hk => hk.1)
theorem gT4 {α : Type} {d : Kd α} {e base g t i0 i1 i2 i3 : Nat} {ok : Nat → Prop} {w : World} {v u0 u1 u2 u3 : Value} {xs : List α} {cells : Array Value} (h : d.R e w base ok v xs) (hb : w.heap[g]? = some (.cells cells t (0, 0))) (ht : ∀ q, q ∈ e :: d.E → q ≠ t := by decide) : d.R e ((((w.setCell ⟨g, i0, none⟩ u0).setCell ⟨g, i1, none⟩ u1).setCell ⟨g, i2, none⟩ u2).setCell ⟨g, i3, none⟩ u3) base ok v xs := af (aX (p := ⟨g, i3, none⟩) (aX (p := ⟨g, i2, none⟩) (aX (p := ⟨g, i1, none⟩) (aX (p := ⟨g, i0, none⟩) (al h hb ht) (fun _ hk => hk.2) u0) (fun _ hk => hk.2) u1) (fun _ hk => hk.2) u2) (fun _ hk => hk.2) u3) (fun _ hk => hk.1)
theorem gV4 {α : Type} {d : Kd α} {e base g i0 i1 i2 i3 : Nat} {ok : Nat → Prop} {w : World} {v u0 u1 u2 u3 : Value} {xs : List α} (h : Kd.V d e w base ok v xs) (hn : ∀ k, ok k → k ≠ g := by exact fun _ hk => hk.2) : Kd.V d e ((((w.setCell ⟨g, i0, none⟩ u0).setCell ⟨g, i1, none⟩ u1).setCell ⟨g, i2, none⟩ u2).setCell ⟨g, i3, none⟩ u3) base ok v xs := (bL (p := ⟨g, i3, none⟩) (bL (p := ⟨g, i2, none⟩) (bL (p := ⟨g, i1, none⟩) (bL (p := ⟨g, i0, none⟩) h hn u0) hn u1) hn u2) hn u3)
theorem yl {α β : Type} {x : α} {f : α → Option β} {r : β} {p : Prop} (h : (some x).bind f = some r) (g : ∀ y, Aside0 (y = x) → f y = some r → p) : p := g x ⟨rfl⟩ h
theorem yS {α : Type} {x r : α} {p : Prop} (h : some x = some r) (g : ∀ y, Aside0 (y = x) → some y = some r → p) : p := g x ⟨rfl⟩ h
theorem rF {α : Type} {d : Kd α} {e base n c : Nat} {ok : Nat → Prop} {W : World} {A : Option Addr} {xs : List α} (h : d.R e W base ok (.slice A n c) xs) : n ≤ c ∧ Kd.F d W ok A n xs := ⟨(an h).2.1, Kd.R_F h⟩
theorem mkG (W : World) (ok : Nat → Prop) (x : S30) {A1 : Option Addr} {c1 : Nat} (h1 : x.f1.length ≤ c1 ∧ Kd.F (Kd.int .i64) W ok A1 x.f1.length x.f1) {A2 : Option Addr} {c2 : Nat} (h2 : x.f2.length ≤ c2 ∧ Kd.F (Kd.int .i64) W ok A2 x.f2.length x.f2) {A3 : Option Addr} {c3 : Nat} (h3 : x.f3.length ≤ c3 ∧ Kd.F k38 W ok A3 x.f3.length x.f3) : Kd.FK k30 W ok x [.int .i64 x.f0, .slice A1 x.f1.length c1, .slice A2 x.f2.length c2, .slice A3 x.f3.length c3] := k30_mkF W ok x h1.1 h1.2 h2.1 h2.2 h3.1 h3.2
theorem mz0 {p : Prop} (h : p := by repeat' first | (with_reducible apply ih0) | (with_reducible apply ih1) | (with_reducible apply ih2) | (with_reducible apply ih3) | (with_reducible apply ih4) | (with_reducible apply ih5) | (with_reducible apply ih6) | (with_reducible apply ih7) | (with_reducible apply ih8) | (with_reducible exact LeO.refl _) | (with_reducible exact LeO.none _) | (with_reducible refine LeO.ite ?_ ?_) | (with_reducible refine LeO.bind ?_ (fun _ => ?_)) | apply ih0 | apply ih1 | apply ih2 | apply ih3 | apply ih4 | apply ih5 | apply ih6 | apply ih7 | apply ih8 | exact LeO.none _ | refine LeO.ite ?_ ?_ | refine LeO.bind ?_ (fun _ => ?_)) : p := h
theorem mz3 {p : Prop} (h : p := by repeat' first | (with_reducible apply ih0) | (with_reducible apply ih1) | (with_reducible apply ih2) | (with_reducible apply ih3) | (with_reducible apply ih4) | (with_reducible apply ih5) | (with_reducible apply ih6) | (with_reducible apply ih7) | (with_reducible apply ih8) | (with_reducible apply im0) | (with_reducible apply im1) | (with_reducible apply im2) | (with_reducible exact LeO.refl _) | (with_reducible exact LeO.none _) | (with_reducible refine LeO.ite ?_ ?_) | (with_reducible refine LeO.bind ?_ (fun _ => ?_)) | apply ih0 | apply ih1 | apply ih2 | apply ih3 | apply ih4 | apply ih5 | apply ih6 | apply ih7 | apply ih8 | apply im0 | apply im1 | apply im2 | exact LeO.none _ | refine LeO.ite ?_ ?_ | refine LeO.bind ?_ (fun _ => ?_)) : p := h
theorem bxw {P : Program} {ops : Array Oper} {rest : List Oper} {o : Oper} {a : Act} {Q : Exit → Act → World → Prop} {W : World} (N : Tmp) (t : TypeId) (cs : Array Value) (h : ∀ g, g = W.heap.size → ∀ w1, w1.heap[g]? = some (.cells cs t (0, 0)) → Below W.heap.size W w1 → wpList P ops Q rest (a.put o.dst (.pointer (some ⟨g, 0, none⟩))) w1) (hg : o.guard = none := by rfl) (hd : o.dst = some N := by rfl) (hr : (execOp a.eval o).run P W = .ok (.value (.pointer (some ⟨W.heap.size, 0, none⟩))) (W.alloc (.cells cs t (0, 0))) := by first | (go_simp; done) | (go_simp; rfl)) : wpList P ops Q (o :: rest) a W := box_event hg hd hr h
theorem zc {q p : Prop} (h : q) (i : q → p := by intro h_; repeat (first | exact h_ | (with_reducible refine Kd.C_alloc ?_ _) | (with_reducible refine au ?_ _) | (with_reducible refine Kd.C_drew ?_))) : p := i h
theorem zs1 {q0 p : Prop} (h0 : q0) (i : q0 → p := by intro g0_; repeat (first | (with_reducible first | exact HB.out | apply Xaf | apply X3 | apply X9 | refine X0 ?_ g0_) | exact HB.out)) : p := i h0
theorem zk {q p : Prop} (h : q) (i : q → p := by intro h_; (with_reducible repeat (first | refine Xd ?_ _ | refine Xf ?_ | refine Xb ?_ _)); exact h_) : p := i h
theorem gL {P : Program} {ops : Array Oper} {rest : List Oper} {oi : Oper} {a : Act} {w : World} {Q : Exit → Act → World → Prop} (N : Tmp) {f : FuncId} {fn : Func} {az : Array Operand} {ts : Array TypeId} (hf : P.funcs[f]? = some fn) (args : Array Value) {R : Ending → World → Prop} (hc : Calls P f args w R) (h : ∀ e w', R e w' → ∃ v, e = .returned v ∧ wpList P ops Q rest (a.put (some N) v) w') (hd : oi.dst = some N := by rfl) (hg : oi.guard = none := by rfl) (hname : (fn.name == "runtime.NumGoroutine") = false := by kernel_rfl) (hb : fn.body.isSome = true := by rfl) (hop : oi.op = .call { callee := .value (.func f), args := az, argTypes := ts } := by rfl) (hargs : az.map a.eval = args := by (try simp only [List.map_toArray, List.map_cons, List.map_nil]); first | done | rfl | (simp only [List.length_drop, List.length_take]; rfl)) : wpList P ops Q (oi :: rest) a w := Xbz (some N) hd hg hf hname hb args hop hargs (hc.mono h)
theorem zr {q p : Prop} (h : q) (i : q → p := by intro h_; (with_reducible repeat (first | apply Kd.R_alloc | apply ai | apply ak)); exact h_) : p := i h
theorem lwR {P : Program} {ops : Array Oper} {rest : List Oper} {o : Oper} {a : Act} {Q : Exit → Act → World → Prop} {α : Type} (d : Kd α) {W : World} (e : Nat) (N : Tmp) (inner : List Value) {xs y : List α} (hy : Aside0 (y = xs)) (hp : Reps (d.M W W.heap.size fun _ => True) d.sz xs inner) (h : ∀ v1 w1, Kd.R d e w1 W.heap.size (fun _ => True) v1 y → Below W.heap.size W w1 → wpList P ops Q rest (a.put o.dst v1) w1) (hg : o.guard = none := by rfl) (hd : o.dst = some N := by rfl) (hr : (execOp a.eval o).run P W = .ok (.value (.slice (some ⟨W.heap.size, 0, none⟩) xs.length xs.length)) (W.alloc (.cells inner.toArray e)) := by first | (go_simp; done) | (go_simp; rfl)) (hm : xs.length ≤ 9223372036854775807 := by simp) : wpList P ops Q (o :: rest) a W := b7 d _ e hg hd hr hp (fun _ hk => hk) trivial (Below.refl _ _) (Nat.le_refl _) hm (fun v1 w1 h1 h2 _ _ => h v1 w1 (hy.out ▸ h1) h2)
theorem mz5 {p : Prop} (h : p := by repeat' first | (with_reducible apply ih0) | (with_reducible apply ih1) | (with_reducible apply ih2) | (with_reducible apply ih3) | (with_reducible apply ih4) | (with_reducible apply ih5) | (with_reducible apply ih6) | (with_reducible apply ih7) | (with_reducible apply ih8) | (with_reducible apply im0) | (with_reducible apply im1) | (with_reducible apply im2) | (with_reducible apply im3) | (with_reducible apply im4) | (with_reducible exact LeO.refl _) | (with_reducible exact LeO.none _) | (with_reducible refine LeO.ite ?_ ?_) | (with_reducible refine LeO.bind ?_ (fun _ => ?_)) | apply ih0 | apply ih1 | apply ih2 | apply ih3 | apply ih4 | apply ih5 | apply ih6 | apply ih7 | apply ih8 | apply im0 | apply im1 | apply im2 | apply im3 | apply im4 | exact LeO.none _ | refine LeO.ite ?_ ?_ | refine LeO.bind ?_ (fun _ => ?_)) : p := h
theorem zv {q p : Prop} (h : q) (i : q → p := by intro h_; (with_reducible repeat (first | apply Kd.V_alloc | apply Kd.V_drewN | apply aA)); exact h_) : p := i h
theorem zn {q p : Prop} (h : q) (i : q → p := by intro h_; (with_reducible repeat (first | apply Kd.N_alloc | apply Kd.N_drewN | apply aC)); exact h_) : p := i h
theorem zs2 {q0 q1 p : Prop} (h0 : q0) (h1 : q1) (i : q0 → q1 → p := by intro g0_ g1_; repeat (first | (with_reducible first | exact HB.out | apply Xaf | apply X3 | apply X9 | refine X0 ?_ g0_ | refine X0 ?_ g1_) | exact HB.out)) : p := i h0 h1
theorem pz0 {p : Prop} (h : p := by intro w'; go_simp; with_reducible rfl) : p := h
theorem pz1 {p : Prop} (h : p := by simp only [Act.put, List.setIfInBounds_toArray, List.set_cons_zero, List.set_cons_succ, Xan, Xaq]; rfl) : p := h
abbrev Y : Bool := true
abbrev Z : Bool := false
theorem Xax {md : Region.Mode} {P : Program} {ops : Array Oper} {Q : Exit → Act → World → Prop} {S : World → Prop} {ds : List Nat} {oi : Oper} {v : Value} {fuel : Nat} {l : Array Bool} {a a' : Act} {w : World} {T : Bool × List (List Nat × List Nat)} (i : Nat) (N : Tmp) (l' : Array Bool) (hT : Aside0 (Xch md ops = T)) (h : Xas P md ops Q S ds fuel l' a' w) (hi : ops[i]? = some oi := by rfl) (hN : oi.dst = some N := by rfl) (hc : anyT T l.toList l'.toList i = true := by kernel_rfl) (h1 : Region.wanted oi (yielded ops a.tmps) = true := by rfl) (h2 : ∀ w', (execOp a.eval oi).run P w' = .ok (.value v) w' := by intro w'; go_simp; with_reducible rfl) (ha : a.put (some N) v = a' := by simp only [Act.put, List.setIfInBounds_toArray, List.set_cons_zero, List.set_cons_succ, Xan, Xaq]; rfl) (hQ : ∀ c a w, Q (.panic c) (a.put oi.dst v) w → Q (.panic c) a w := by exact fun _ _ _ h => h) : Xas P md ops Q S ds (fuel + 1) l a w := pure_ (i := i) (N := some N) l' hi hN (any_of hT.out hc) hQ (.inl ⟨h1, h2⟩) ha h
theorem zs3 {q0 q1 q2 p : Prop} (h0 : q0) (h1 : q1) (h2 : q2) (i : q0 → q1 → q2 → p := by intro g0_ g1_ g2_; repeat (first | (with_reducible first | exact HB.out | apply Xaf | apply X3 | apply X9 | refine X0 ?_ g0_ | refine X0 ?_ g1_ | refine X0 ?_ g2_) | exact HB.out)) : p := i h0 h1 h2
theorem zb {q p : Prop} (h : q) (i : q → p := by intro h_; first | (rw [Xcz]; exact h_) | (show (Addr.add _ _).block ≠ _; rw [Xcz]; exact h_) | exact h_) : p := i h
theorem lwN {P : Program} {ops : Array Oper} {rest : List Oper} {o : Oper} {a : Act} {Q : Exit → Act → World → Prop} {α : Type} (d : Kd α) {W : World} (e : Nat) (N : Tmp) (inner : List Value) {xs y : List α} (hy : Aside0 (y = xs)) (hp : Reps (Kd.FK d W fun _ => True) d.sz xs inner) (h : ∀ v1 w1, Kd.N d e w1 W.heap.size (fun _ => True) v1 y → Below W.heap.size W w1 → wpList P ops Q rest (a.put o.dst v1) w1) (hg : o.guard = none := by rfl) (hd : o.dst = some N := by rfl) (hr : (execOp a.eval o).run P W = .ok (.value (.slice (some ⟨W.heap.size, 0, none⟩) xs.length xs.length)) (W.alloc (.cells inner.toArray e)) := by first | (go_simp; done) | (go_simp; rfl)) (hm : xs.length ≤ 9223372036854775807 := by simp) : wpList P ops Q (o :: rest) a W := bF d _ e hg hd hr hp (fun _ hk => hk) trivial (Below.refl _ _) (Nat.le_refl _) hm (fun v1 w1 h1 h2 _ _ => h v1 w1 (hy.out ▸ h1) h2)
theorem zs4 {q0 q1 q2 q3 p : Prop} (h0 : q0) (h1 : q1) (h2 : q2) (h3 : q3) (i : q0 → q1 → q2 → q3 → p := by intro g0_ g1_ g2_ g3_; repeat (first | (with_reducible first | exact HB.out | apply Xaf | apply X3 | apply X9 | refine X0 ?_ g0_ | refine X0 ?_ g1_ | refine X0 ?_ g2_ | refine X0 ?_ g3_) | exact HB.out)) : p := i h0 h1 h2 h3
theorem zs {q p : Prop} (h : q) (i : q → p := by intro h_; (with_reducible repeat (first | apply Kd.S_alloc | apply Kd.S_drewN | apply bh)); exact h_) : p := i h
theorem zq {p : Prop} (h : p) : Aside0 p := ⟨h⟩
abbrev hdB4 (w : World) (g0 : Nat) (v0_0 : Value) (v0_1 : Value) (v0_2 : Value) (v0_3 : Value) : Prop := w.cell? ⟨g0, 0, none⟩ = some (v0_0) ∧ w.cell? ⟨g0, 1, none⟩ = some (v0_1) ∧ w.cell? ⟨g0, 2, none⟩ = some (v0_2) ∧ w.cell? ⟨g0, 3, none⟩ = some (v0_3)
abbrev hdB4B4 (w : World) (g0 : Nat) (v0_0 : Value) (v0_1 : Value) (v0_2 : Value) (v0_3 : Value) (g1 : Nat) (v1_0 : Value) (v1_1 : Value) (v1_2 : Value) (v1_3 : Value) : Prop := w.cell? ⟨g0, 0, none⟩ = some (v0_0) ∧ w.cell? ⟨g0, 1, none⟩ = some (v0_1) ∧ w.cell? ⟨g0, 2, none⟩ = some (v0_2) ∧ w.cell? ⟨g0, 3, none⟩ = some (v0_3) ∧ w.cell? ⟨g1, 0, none⟩ = some (v1_0) ∧ w.cell? ⟨g1, 1, none⟩ = some (v1_1) ∧ w.cell? ⟨g1, 2, none⟩ = some (v1_2) ∧ w.cell? ⟨g1, 3, none⟩ = some (v1_3)
abbrev hdB4ED (w : World) (g0 : Nat) (v0_0 : Value) (v0_1 : Value) (v0_2 : Value) (v0_3 : Value) (p1 : Addr) (x1 : S38) : Prop := w.cell? ⟨g0, 0, none⟩ = some (v0_0) ∧ w.cell? ⟨g0, 1, none⟩ = some (v0_1) ∧ w.cell? ⟨g0, 2, none⟩ = some (v0_2) ∧ w.cell? ⟨g0, 3, none⟩ = some (v0_3) ∧ w.cell? p1 = some (.int .i64 x1.f0) ∧ w.cell? ⟨p1.block, p1.off + 1, none⟩ = some (.int .i64 x1.f1)
abbrev hdBN (w : World) (g0 : Nat) (x0 : S30) (A0_1 : Option Addr) (c0_1 : Nat) (A0_2 : Option Addr) (c0_2 : Nat) (A0_3 : Option Addr) (c0_3 : Nat) : Prop := w.cell? ⟨g0, 0, none⟩ = some (.int .i64 x0.f0) ∧ w.cell? ⟨g0, 1, none⟩ = some (.slice A0_1 x0.f1.length c0_1) ∧ w.cell? ⟨g0, 2, none⟩ = some (.slice A0_2 x0.f2.length c0_2) ∧ w.cell? ⟨g0, 3, none⟩ = some (.slice A0_3 x0.f3.length c0_3)
abbrev hdEN (w : World) (p0 : Addr) (x0 : S30) (A0_1 : Option Addr) (c0_1 : Nat) (A0_2 : Option Addr) (c0_2 : Nat) (A0_3 : Option Addr) (c0_3 : Nat) : Prop := w.cell? p0 = some (.int .i64 x0.f0) ∧ w.cell? ⟨p0.block, p0.off + 1, none⟩ = some (.slice A0_1 x0.f1.length c0_1) ∧ w.cell? ⟨p0.block, p0.off + 2, none⟩ = some (.slice A0_2 x0.f2.length c0_2) ∧ w.cell? ⟨p0.block, p0.off + 3, none⟩ = some (.slice A0_3 x0.f3.length c0_3)
abbrev hdENEN (w : World) (p0 : Addr) (x0 : S30) (A0_1 : Option Addr) (c0_1 : Nat) (A0_2 : Option Addr) (c0_2 : Nat) (A0_3 : Option Addr) (c0_3 : Nat) (p1 : Addr) (x1 : S30) (A1_1 : Option Addr) (c1_1 : Nat) (A1_2 : Option Addr) (c1_2 : Nat) (A1_3 : Option Addr) (c1_3 : Nat) : Prop := w.cell? p0 = some (.int .i64 x0.f0) ∧ w.cell? ⟨p0.block, p0.off + 1, none⟩ = some (.slice A0_1 x0.f1.length c0_1) ∧ w.cell? ⟨p0.block, p0.off + 2, none⟩ = some (.slice A0_2 x0.f2.length c0_2) ∧ w.cell? ⟨p0.block, p0.off + 3, none⟩ = some (.slice A0_3 x0.f3.length c0_3) ∧ w.cell? p1 = some (.int .i64 x1.f0) ∧ w.cell? ⟨p1.block, p1.off + 1, none⟩ = some (.slice A1_1 x1.f1.length c1_1) ∧ w.cell? ⟨p1.block, p1.off + 2, none⟩ = some (.slice A1_2 x1.f2.length c1_2) ∧ w.cell? ⟨p1.block, p1.off + 3, none⟩ = some (.slice A1_3 x1.f3.length c1_3)
theorem Xcp {w : World} {g t : Nat} {v0 v1 v2 v3 : Value} (h : w.heap[g]? = some (.cells #[v0, v1, v2, v3] t (0, 0))) : w.cell? ⟨g, 0, none⟩ = some v0 ∧ w.cell? ⟨g, 1, none⟩ = some v1 ∧ w.cell? ⟨g, 2, none⟩ = some v2 ∧ w.cell? ⟨g, 3, none⟩ = some v3 := ⟨(Xx h 0).trans rfl, (Xx h 1).trans rfl, (Xx h 2).trans rfl, (Xx h 3).trans rfl⟩
theorem yt {α : Type} {c : Prop} {_ : Decidable c} {a b : Option α} {r : α} {p : Prop} (h : (if c then a else b) = some r) (f : ¬c → b = some r → p) (g : c → a = some r → p) : p := by
 by_cases k : c
 ·exact g k ((if_pos k).symm.trans h)
 ·exact f k ((if_neg k).symm.trans h)
theorem yu {α : Type} {c : Prop} {_ : Decidable c} {a b : Option α} {r : α} {p : Prop} (h : (if c then a else b) = some r) (g : c → a = some r → p) (f : ¬c → b = some r → p) : p := yt h f g
theorem yd {α : Type} {c : Prop} {_ : Decidable c} {a b : Option α} {r : α} {p : Prop} (h : (if c then a else b) = some r) (f : decide c = false → b = some r → p) (g : decide c = true → a = some r → p) : p := yt h (fun k => f (decide_eq_false k)) (fun k => g (decide_eq_true k))
theorem yD {α : Type} {c : Prop} {_ : Decidable c} {a b : Option α} {r : α} {p : Prop} (h : (if c then a else b) = some r) (g : decide c = true → a = some r → p) (f : decide c = false → b = some r → p) : p := yd h f g
theorem yi {α : Type} {c : Prop} {_ : Decidable c} {a : Option α} {r : α} {p : Prop} (h : (if c then a else none) = some r) (g : c → a = some r → p) : p := yt h (fun _ x => nomatch x) g
theorem yj {α : Type} {c : Prop} {_ : Decidable c} {a : Option α} {r : α} {p : Prop} (h : (if c then a else none) = some r) (g : decide c = true → a = some r → p) : p := yi h (fun k => g (decide_eq_true k))
theorem yB {α : Type} {t : Bool} {_ : Decidable (t = true)} {a b : Option α} {r : α} {p : Prop} (h : (if t = true then a else b) = some r) (f : t = false → b = some r → p) (g : t = true → a = some r → p) : p := yt h (fun k => f (Bool.eq_false_iff.mpr k)) g
theorem yC {α : Type} {t : Bool} {_ : Decidable (t = true)} {a b : Option α} {r : α} {p : Prop} (h : (if t = true then a else b) = some r) (g : t = true → a = some r → p) (f : t = false → b = some r → p) : p := yB h f g
theorem yE {α β : Type} [BEq β] [LawfulBEq β] {x y : β} {_ : Decidable (x = y)} {a b : Option α} {r : α} {p : Prop} (h : (if x = y then a else b) = some r) (f : (x == y) = false ∧ (x != y) = true ∧ ¬ x = y → b = some r → p) (g : (x == y) = true ∧ (x != y) = false ∧ x = y → a = some r → p) : p := yt h (fun k => f ⟨beq_eq_false_iff_ne.mpr k, bne_iff_ne.mpr k, k⟩) (fun k => g ⟨beq_iff_eq.mpr k, bne_eq_false_iff_eq.mpr k, k⟩)
theorem yF {α β : Type} [BEq β] [LawfulBEq β] {x y : β} {_ : Decidable (x = y)} {a b : Option α} {r : α} {p : Prop} (h : (if x = y then a else b) = some r) (g : (x == y) = true ∧ (x != y) = false ∧ x = y → a = some r → p) (f : (x == y) = false ∧ (x != y) = true ∧ ¬ x = y → b = some r → p) : p := yE h f g
theorem yv {α β : Type} {x : Option α} {f : α → Option β} {r : β} {p : Prop} (h : x.bind f = some r) (g : ∀ t, Aside0 (x = some t) → f t = some r → p) : p :=
 let ⟨t, k, e⟩ := Option.bind_eq_some_iff.mp h
 g t ⟨k⟩ e
theorem yp2 {A0 A1 : Type} {a0 b0 : A0} {a1 b1 : A1} (h : some (a0, a1) = some (b0, b1)) : a0 = b0 ∧ a1 = b1 := by
 simpa only [Option.some.injEq, Prod.mk.injEq] using h
theorem yp3 {A0 A1 A2 : Type} {a0 b0 : A0} {a1 b1 : A1} {a2 b2 : A2} (h : some (a0, a1, a2) = some (b0, b1, b2)) : a0 = b0 ∧ a1 = b1 ∧ a2 = b2 := by
 simpa only [Option.some.injEq, Prod.mk.injEq] using h
theorem yp4 {A0 A1 A2 A3 : Type} {a0 b0 : A0} {a1 b1 : A1} {a2 b2 : A2} {a3 b3 : A3} (h : some (a0, a1, a2, a3) = some (b0, b1, b2, b3)) : a0 = b0 ∧ a1 = b1 ∧ a2 = b2 ∧ a3 = b3 := by
 simpa only [Option.some.injEq, Prod.mk.injEq] using h
theorem yp5 {A0 A1 A2 A3 A4 : Type} {a0 b0 : A0} {a1 b1 : A1} {a2 b2 : A2} {a3 b3 : A3} {a4 b4 : A4} (h : some (a0, a1, a2, a3, a4) = some (b0, b1, b2, b3, b4)) : a0 = b0 ∧ a1 = b1 ∧ a2 = b2 ∧ a3 = b3 ∧ a4 = b4 := by
 simpa only [Option.some.injEq, Prod.mk.injEq] using h
theorem yo {α : Type} {a b : α} (h : some a = some b) : a = b := Option.some.inj h
theorem yh {w w' : World} {a : Addr} {v : Value} (hb : Aside0 (Below w.heap.size w w')) (h : w.cell? a = some v) : w'.cell? a = some v := (hb.out.cell (World.block_lt_of_cell? w _ h)).trans h
theorem cz2 {w : World} {g : Nat} {t : TypeId} {a0 a1 : Value} (h : w.heap[g]? = some (.cells #[a0, a1] t (0, 0))) : w.cell? ⟨g, 0, none⟩ = some a0 ∧ w.cell? ⟨g, 1, none⟩ = some a1 ∧ w.frozen? ⟨g, 0, none⟩ = false ∧ w.frozen? ⟨g, 1, none⟩ = false :=
 ⟨(Xx h 0).trans rfl, (Xx h 1).trans rfl, Xa3 h 0, Xa3 h 1⟩
theorem cz4 {w : World} {g : Nat} {t : TypeId} {a0 a1 a2 a3 : Value} (h : w.heap[g]? = some (.cells #[a0, a1, a2, a3] t (0, 0))) : w.cell? ⟨g, 0, none⟩ = some a0 ∧ w.cell? ⟨g, 1, none⟩ = some a1 ∧ w.cell? ⟨g, 2, none⟩ = some a2 ∧ w.cell? ⟨g, 3, none⟩ = some a3 ∧ w.frozen? ⟨g, 0, none⟩ = false ∧ w.frozen? ⟨g, 1, none⟩ = false ∧ w.frozen? ⟨g, 2, none⟩ = false ∧ w.frozen? ⟨g, 3, none⟩ = false :=
 ⟨(Xx h 0).trans rfl, (Xx h 1).trans rfl, (Xx h 2).trans rfl, (Xx h 3).trans rfl, Xa3 h 0, Xa3 h 1, Xa3 h 2, Xa3 h 3⟩
theorem J0 {p : Prop} (h : p := by repeat (first | (with_reducible first | exact HB.out | apply Xaf | apply X3 | apply X9) | exact HB.out)) : p := h
theorem J1 {p : Prop} (h : p := by first | rfl | (simp [Xdh, Xdg] <;> rfl) | (simp [*, Xdh, Xdg] <;> rfl)) : p := h
theorem J2 {p : Prop} (h : p := by first | (with_reducible assumption) | assumption) : p := h
theorem J3 {p : Prop} (h : p := by (try simp only [List.map_toArray, List.map_cons, List.map_nil]); first | done | rfl | (simp only [List.length_drop, List.length_take]; rfl)) : p := h
theorem J4 {p : Prop} (h : p := by first | rfl | (simp; done) | (simp [*]; done)) : p := h
theorem J5 {p : Prop} (h : p := by repeat (first | (with_reducible first | exact HB.out | apply Xaf | apply X3 | apply X9 | refine X0 ?_ GE600.out) | exact HB.out)) : p := h
theorem J6 {p : Prop} (h : p := by (with_reducible repeat (first | refine Xd ?_ _ | refine Xf ?_ | refine Xb ?_ _)); refine Xk (cs := #[.int .i64 ((Xa l0 x17_1).f0), .slice A363_1 ((Xa l0 x17_1).f1).length c363_1, .slice A363_2 ((Xa l0 x17_1).f2).length c363_2, .slice none 0 0]) ?_ 3 _ rfl; (with_reducible repeat (first | refine Xd ?_ _ | refine Xf ?_ | refine Xb ?_ _)); refine Xk (cs := #[.int .i64 ((Xa l0 x17_1).f0), .slice A363_1 ((Xa l0 x17_1).f1).length c363_1, .slice none 0 0, .slice none 0 0]) ?_ 2 _ rfl; (with_reducible repeat (first | refine Xd ?_ _ | refine Xf ?_ | refine Xb ?_ _)); refine Xk (cs := #[.int .i64 ((Xa l0 x17_1).f0), .slice none 0 0, .slice none 0 0, .slice none 0 0]) ?_ 1 _ rfl; (with_reducible repeat (first | refine Xd ?_ _ | refine Xf ?_ | refine Xb ?_ _)); refine Xk (cs := #[.int .i64 0, .slice none 0 0, .slice none 0 0, .slice none 0 0]) ?_ 0 _ rfl; (with_reducible repeat (first | refine Xd ?_ _ | refine Xf ?_ | refine Xb ?_ _)); exact BK364.out) : p := h
theorem J7 {p : Prop} (h : p := by first | (simp only [Xb6, Act.put, List.setIfInBounds_toArray, List.set_cons_zero, List.set_cons_succ]; done) | (simp only [Xb6, Act.put, List.setIfInBounds_toArray, List.set_cons_zero, List.set_cons_succ]; rfl)) : p := h
theorem J8 {p : Prop} (h : p := by first | exact bw _ _ _ _ _ | exact cl _ _ _ _ _ | exact cq _ _ _ _ _ | exact Kd.Q_nil _ _ _ _ _ | exact cM _ _ _ _ _) : p := h
theorem J9 {p : Prop} (h : p := by repeat (first | exact Drawn0.refl _ | apply Drawn0.step)) : p := h
theorem J10 {p : Prop} (h : p := by (with_reducible repeat (first | refine Xd ?_ _ | refine Xf ?_ | refine Xb ?_ _)); refine Xk (cs := #[.int .i64 ((Xa l0 0).f0), .slice A710_1 ((Xa l0 0).f1).length c710_1, .slice A710_2 ((Xa l0 0).f2).length c710_2, .slice none 0 0]) ?_ 3 _ rfl; (with_reducible repeat (first | refine Xd ?_ _ | refine Xf ?_ | refine Xb ?_ _)); refine Xk (cs := #[.int .i64 ((Xa l0 0).f0), .slice A710_1 ((Xa l0 0).f1).length c710_1, .slice none 0 0, .slice none 0 0]) ?_ 2 _ rfl; (with_reducible repeat (first | refine Xd ?_ _ | refine Xf ?_ | refine Xb ?_ _)); refine Xk (cs := #[.int .i64 ((Xa l0 0).f0), .slice none 0 0, .slice none 0 0, .slice none 0 0]) ?_ 1 _ rfl; (with_reducible repeat (first | refine Xd ?_ _ | refine Xf ?_ | refine Xb ?_ _)); refine Xk (cs := #[.int .i64 0, .slice none 0 0, .slice none 0 0, .slice none 0 0]) ?_ 0 _ rfl; (with_reducible repeat (first | refine Xd ?_ _ | refine Xf ?_ | refine Xb ?_ _)); exact BK711.out) : p := h
theorem J11 {p : Prop} (h : p := by repeat (first | (with_reducible first | exact HB.out | apply Xaf | apply X3 | apply X9 | refine X0 ?_ GE711.out) | exact HB.out)) : p := h
theorem J12 {p : Prop} (h : p := by repeat (first | (with_reducible first | exact HB.out | apply Xaf | apply X3 | apply X9 | refine X0 ?_ GE623.out | refine X0 ?_ GE632.out) | exact HB.out)) : p := h
theorem J13 {p : Prop} (h : p := by (with_reducible repeat (first | refine Xd ?_ _ | refine Xf ?_ | refine Xb ?_ _)); exact BK600.out) : p := h
theorem J14 {p : Prop} (h : p := by decide) : p := h
theorem J15 {p : Prop} (h : p := by (with_reducible repeat (first | refine Xd ?_ _ | refine Xf ?_ | refine Xb ?_ _)); refine Xk (cs := #[.int .i64 ((Xa l0 0).f0), .slice A281_1 ((Xa l0 0).f1).length c281_1, .slice A281_2 ((Xa l0 0).f2).length c281_2, .slice none 0 0]) ?_ 3 _ rfl; (with_reducible repeat (first | refine Xd ?_ _ | refine Xf ?_ | refine Xb ?_ _)); refine Xk (cs := #[.int .i64 ((Xa l0 0).f0), .slice A281_1 ((Xa l0 0).f1).length c281_1, .slice none 0 0, .slice none 0 0]) ?_ 2 _ rfl; (with_reducible repeat (first | refine Xd ?_ _ | refine Xf ?_ | refine Xb ?_ _)); refine Xk (cs := #[.int .i64 ((Xa l0 0).f0), .slice none 0 0, .slice none 0 0, .slice none 0 0]) ?_ 1 _ rfl; (with_reducible repeat (first | refine Xd ?_ _ | refine Xf ?_ | refine Xb ?_ _)); refine Xk (cs := #[.int .i64 0, .slice none 0 0, .slice none 0 0, .slice none 0 0]) ?_ 0 _ rfl; (with_reducible repeat (first | refine Xd ?_ _ | refine Xf ?_ | refine Xb ?_ _)); exact BK282.out) : p := h
theorem J16 {p : Prop} (h : p := by repeat (first | (with_reducible first | exact HB.out | apply Xaf | apply X3 | apply X9 | refine X0 ?_ GE130.out) | exact HB.out)) : p := h
theorem J17 {p : Prop} (h : p := by kernel_rfl) : p := h
theorem J18 {p : Prop} (h : p := by (with_reducible repeat (first | refine Xd ?_ _ | refine Xf ?_ | refine Xb ?_ _)); refine Xab ?_ NB176_183.out _; (with_reducible repeat (first | refine Xd ?_ _ | refine Xf ?_ | refine Xb ?_ _)); refine Xab ?_ NB176_183.out _; (with_reducible repeat (first | refine Xd ?_ _ | refine Xf ?_ | refine Xb ?_ _)); refine Xab ?_ NB176_183.out _; (with_reducible repeat (first | refine Xd ?_ _ | refine Xf ?_ | refine Xb ?_ _)); refine Xab ?_ NB176_183.out _; (with_reducible repeat (first | refine Xd ?_ _ | refine Xf ?_ | refine Xb ?_ _)); exact BK176.out) : p := h
theorem J19 {p : Prop} (h : p := by repeat (first | (with_reducible first | exact HB.out | apply Xaf | apply X3 | apply X9 | refine X0 ?_ GE124.out) | exact HB.out)) : p := h
theorem J20 {p : Prop} (h : p := by (with_reducible repeat (first | refine Xd ?_ _ | refine Xf ?_ | refine Xb ?_ _)); refine Xk (cs := #[.int .i64 0, .int .i64 0]) ?_ 1 _ rfl; (with_reducible repeat (first | refine Xd ?_ _ | refine Xf ?_ | refine Xb ?_ _)); refine Xk (cs := #[.int .i64 0, .int .i64 0]) ?_ 0 _ rfl; (with_reducible repeat (first | refine Xd ?_ _ | refine Xf ?_ | refine Xb ?_ _)); exact BK102.out) : p := h
theorem J21 {p : Prop} (h : p := by (with_reducible repeat (first | refine Xd ?_ _ | refine Xf ?_ | refine Xb ?_ _)); refine Xk (cs := #[.int .i64 0, .int .i64 0]) ?_ 1 _ rfl; (with_reducible repeat (first | refine Xd ?_ _ | refine Xf ?_ | refine Xb ?_ _)); refine Xk (cs := #[.int .i64 0, .int .i64 0]) ?_ 0 _ rfl; (with_reducible repeat (first | refine Xd ?_ _ | refine Xf ?_ | refine Xb ?_ _)); exact BK594.out) : p := h
theorem J22 {p : Prop} (h : p := by rw [hg]; exact (Xc J0)) : p := h
theorem J23 {p : Prop} (h : p := by repeat (first | (with_reducible first | exact HB.out | apply Xaf | apply X3 | apply X9 | refine X0 ?_ GE101.out | refine X0 ?_ GE102.out) | exact HB.out)) : p := h
theorem J24 {p : Prop} (h : p := by repeat (first | (with_reducible first | exact HB.out | apply Xaf | apply X3 | apply X9 | refine X0 ?_ GE593.out | refine X0 ?_ GE594.out) | exact HB.out)) : p := h
theorem J25 {p : Prop} (h : p := by (with_reducible repeat (first | refine Xd ?_ _ | refine Xf ?_ | refine Xb ?_ _)); exact BK711.out) : p := h
theorem J26 {p : Prop} (h : p := by repeat (first | (with_reducible first | exact HB.out | apply Xaf | apply X3 | apply X9 | refine X0 ?_ GE621.out) | exact HB.out)) : p := h
theorem J27 {p : Prop} (h : p := by repeat (first | (with_reducible first | exact HB.out | apply Xaf | apply X3 | apply X9 | refine X0 ?_ GE345.out | refine X0 ?_ GE346.out) | exact HB.out)) : p := h
theorem J28 {p : Prop} (h : p := by (with_reducible repeat (first | refine Xd ?_ _ | refine Xf ?_ | refine Xb ?_ _)); exact BK130.out) : p := h
theorem J29 {p : Prop} (h : p := by omega) : p := h
theorem J30 {p : Prop} (h : p := by (with_reducible repeat (first | refine Xd ?_ _ | refine Xf ?_ | refine Xb ?_ _)); refine Xk (cs := #[.int .i64 ((Xa (Xa5 l1 x16_1) 0).f0), .slice A270_1 ((Xa (Xa5 l1 x16_1) 0).f1).length c270_1, .slice A270_2 ((Xa (Xa5 l1 x16_1) 0).f2).length c270_2, .slice none 0 0]) ?_ 3 _ rfl; (with_reducible repeat (first | refine Xd ?_ _ | refine Xf ?_ | refine Xb ?_ _)); refine Xk (cs := #[.int .i64 ((Xa (Xa5 l1 x16_1) 0).f0), .slice A270_1 ((Xa (Xa5 l1 x16_1) 0).f1).length c270_1, .slice none 0 0, .slice none 0 0]) ?_ 2 _ rfl; (with_reducible repeat (first | refine Xd ?_ _ | refine Xf ?_ | refine Xb ?_ _)); refine Xk (cs := #[.int .i64 ((Xa (Xa5 l1 x16_1) 0).f0), .slice none 0 0, .slice none 0 0, .slice none 0 0]) ?_ 1 _ rfl; (with_reducible repeat (first | refine Xd ?_ _ | refine Xf ?_ | refine Xb ?_ _)); refine Xk (cs := #[.int .i64 0, .slice none 0 0, .slice none 0 0, .slice none 0 0]) ?_ 0 _ rfl; (with_reducible repeat (first | refine Xd ?_ _ | refine Xf ?_ | refine Xb ?_ _)); exact BK271.out) : p := h
theorem J31 {p : Prop} (h : p := by repeat (first | (with_reducible first | exact HB.out | apply Xaf | apply X3 | apply X9 | refine X0 ?_ GE158.out) | exact HB.out)) : p := h
theorem J32 {p : Prop} (h : p := by first | omega | exact Nat.le_refl _) : p := h
theorem J33 {p : Prop} (h : p := by rw [hg]; exact Nat.ne_of_lt (Xbd (g := gb282) (o := .cells #[.int .i64 ((Xa l0 0).f0), .slice A281_1 ((Xa l0 0).f1).length c281_1, .slice A281_2 ((Xa l0 0).f2).length c281_2, .slice A281_3 ((Xa l0 0).f3).length c281_3] 30 (0, 0)) (zk BK282.out))) : p := h
theorem J34 {p : Prop} (h : p := by rw [hg]; exact Nat.ne_of_gt (Xbd (g := gb282) (o := .cells #[.int .i64 ((Xa l0 0).f0), .slice A281_1 ((Xa l0 0).f1).length c281_1, .slice A281_2 ((Xa l0 0).f2).length c281_2, .slice A281_3 ((Xa l0 0).f3).length c281_3] 30 (0, 0)) (zk BK282.out))) : p := h
theorem J35 {p : Prop} (h : p := by rw [hg]; exact Nat.ne_of_lt (Xbd (g := gb345) (o := .cells #[.int .i64 a0_0, .slice A0_1 l0_1.length c0_1, .slice A0_2 l0_2.length c0_2, .slice A0_3 l0_3.length c0_3] 30 (0, 0)) (zk BK345.out))) : p := h
theorem J36 {p : Prop} (h : p := by rw [hg]; exact Nat.ne_of_gt (Xbd (g := gb345) (o := .cells #[.int .i64 a0_0, .slice A0_1 l0_1.length c0_1, .slice A0_2 l0_2.length c0_2, .slice A0_3 l0_3.length c0_3] 30 (0, 0)) (zk BK345.out))) : p := h
theorem J37 {p : Prop} (h : p := by (with_reducible repeat (first | apply Kd.R_alloc | apply ai | apply ak)); exact af HO658.out (fun _ hk => hk.2)) : p := h
theorem J38 {p : Prop} (h : p := by (with_reducible repeat (first | refine Xd ?_ _ | refine Xf ?_ | refine Xb ?_ _)); refine Xk (cs := #[.int .i64 3, .slice none 0 0, .slice Ao43 t378.length co43, .slice none 0 0]) ?_ 3 _ rfl; (with_reducible repeat (first | refine Xd ?_ _ | refine Xf ?_ | refine Xb ?_ _)); refine Xk (cs := #[.int .i64 3, .slice none 0 0, .slice none 0 0, .slice none 0 0]) ?_ 2 _ rfl; (with_reducible repeat (first | refine Xd ?_ _ | refine Xf ?_ | refine Xb ?_ _)); refine Xk (cs := #[.int .i64 3, .slice none 0 0, .slice none 0 0, .slice none 0 0]) ?_ 1 _ rfl; (with_reducible repeat (first | refine Xd ?_ _ | refine Xf ?_ | refine Xb ?_ _)); refine Xk (cs := #[.int .i64 0, .slice none 0 0, .slice none 0 0, .slice none 0 0]) ?_ 0 _ rfl; (with_reducible repeat (first | refine Xd ?_ _ | refine Xf ?_ | refine Xb ?_ _)); exact BK381.out) : p := h
theorem J39 {p : Prop} (h : p := by repeat (first | (with_reducible first | exact HB.out | apply Xaf | apply X3 | apply X9 | refine X0 ?_ GE242.out | refine X0 ?_ GE246.out | refine X0 ?_ GE271.out) | exact HB.out)) : p := h
theorem J40 {p : Prop} (h : p := by (with_reducible repeat (first | apply Kd.S_alloc | apply Kd.S_drewN | apply bh)); exact bl HO_3.out (fun _ hk => ⟨hk.2, hk.1⟩)) : p := h
theorem J41 {p : Prop} (h : p := by (with_reducible repeat (first | apply Kd.R_alloc | apply ai | apply ak)); exact HO_5.out) : p := h
theorem J42 {p : Prop} (h : p := by rw [hg]; exact Nat.ne_of_lt (Xbd (g := gb711) (o := .cells #[.int .i64 ((Xa l0 0).f0), .slice A710_1 ((Xa l0 0).f1).length c710_1, .slice A710_2 ((Xa l0 0).f2).length c710_2, .slice A710_3 ((Xa l0 0).f3).length c710_3] 30 (0, 0)) (zk BK711.out))) : p := h
theorem J43 {p : Prop} (h : p := by rw [hg]; exact Nat.ne_of_gt (Xbd (g := gb711) (o := .cells #[.int .i64 ((Xa l0 0).f0), .slice A710_1 ((Xa l0 0).f1).length c710_1, .slice A710_2 ((Xa l0 0).f2).length c710_2, .slice A710_3 ((Xa l0 0).f3).length c710_3] 30 (0, 0)) (zk BK711.out))) : p := h
theorem J44 {p : Prop} (h : p := by (with_reducible repeat (first | refine Xd ?_ _ | refine Xf ?_ | refine Xb ?_ _)); refine Xab ?_ NB623_632.out _; (with_reducible repeat (first | refine Xd ?_ _ | refine Xf ?_ | refine Xb ?_ _)); exact BK623.out) : p := h
theorem J45 {p : Prop} (h : p := by have := HJ2.out; have := HJ10.out; have := HJ13.out; have := HJ16.out; have := HK5.out; omega) : p := h
theorem J46 {p : Prop} (h : p := by (with_reducible repeat (first | apply Kd.R_alloc | apply ai | apply ak)); exact (gT4 HO182.out BK183.out)) : p := h
theorem J47 {p : Prop} (h : p := by (with_reducible repeat (first | apply Kd.R_alloc | apply ai | apply ak)); exact HO_9.out) : p := h
theorem J48 {p : Prop} (h : p := by (with_reducible repeat (first | refine Xd ?_ _ | refine Xf ?_ | refine Xb ?_ _)); exact BK623.out) : p := h
theorem J49 {p : Prop} (h : p := by (with_reducible repeat (first | apply Kd.N_alloc | apply Kd.N_drewN | apply aC)); exact ap HO_11.out (fun _ hk => ⟨⟨hk.1, ⟨hk.2.1, ⟨hk.2.2.1, ⟨hk.2.2.2.2.1, hk.2.2.2.2.2⟩⟩⟩⟩, hk.2.2.2.1⟩)) : p := h
theorem J50 {p : Prop} (h : p := by (with_reducible repeat (first | refine Xd ?_ _ | refine Xf ?_ | refine Xb ?_ _)); refine Xab ?_ NB282_305.out _; (with_reducible repeat (first | refine Xd ?_ _ | refine Xf ?_ | refine Xb ?_ _)); refine Xab ?_ NB282_305.out _; (with_reducible repeat (first | refine Xd ?_ _ | refine Xf ?_ | refine Xb ?_ _)); refine Xab ?_ NB282_305.out _; (with_reducible repeat (first | refine Xd ?_ _ | refine Xf ?_ | refine Xb ?_ _)); refine Xab ?_ NB282_305.out _; (with_reducible repeat (first | refine Xd ?_ _ | refine Xf ?_ | refine Xb ?_ _)); exact BK282.out) : p := h
theorem J51 {p : Prop} (h : p := by (with_reducible repeat (first | apply Kd.N_alloc | apply Kd.N_drewN | apply aC)); exact ap HO_4.out (fun _ hk => ⟨⟨hk.1, ⟨hk.2.1, ⟨hk.2.2.2.1, ⟨hk.2.2.2.2.1, hk.2.2.2.2.2⟩⟩⟩⟩, hk.2.2.1⟩)) : p := h
theorem J52 {p : Prop} (h : p := by (with_reducible repeat (first | refine Xd ?_ _ | refine Xf ?_ | refine Xb ?_ _)); refine Xab ?_ NB242_271.out _; (with_reducible repeat (first | refine Xd ?_ _ | refine Xf ?_ | refine Xb ?_ _)); refine Xab ?_ NB242_271.out _; (with_reducible repeat (first | refine Xd ?_ _ | refine Xf ?_ | refine Xb ?_ _)); refine Xab ?_ NB242_271.out _; (with_reducible repeat (first | refine Xd ?_ _ | refine Xf ?_ | refine Xb ?_ _)); refine Xab ?_ NB242_271.out _; (with_reducible repeat (first | refine Xd ?_ _ | refine Xf ?_ | refine Xb ?_ _)); exact BK242.out) : p := h
theorem J53 {p : Prop} (h : p := by (with_reducible repeat (first | refine Xd ?_ _ | refine Xf ?_ | refine Xb ?_ _)); refine Xab ?_ NB246_271.out _; (with_reducible repeat (first | refine Xd ?_ _ | refine Xf ?_ | refine Xb ?_ _)); refine Xab ?_ NB246_271.out _; (with_reducible repeat (first | refine Xd ?_ _ | refine Xf ?_ | refine Xb ?_ _)); refine Xab ?_ NB246_271.out _; (with_reducible repeat (first | refine Xd ?_ _ | refine Xf ?_ | refine Xb ?_ _)); refine Xab ?_ NB246_271.out _; (with_reducible repeat (first | refine Xd ?_ _ | refine Xf ?_ | refine Xb ?_ _)); exact BK246.out) : p := h
theorem J54 {p : Prop} (h : p := by have := World.block_lt_of_cell? _ _ hx365_0; first | rwa [Xcz] at this | exact this) : p := h
theorem J55 {p : Prop} (h : p := by (with_reducible repeat (first | apply Kd.N_alloc | apply Kd.N_drewN | apply aC)); exact ap HO_7.out (fun _ hk => ⟨⟨hk.1, ⟨hk.2.1, ⟨hk.2.2.2.1, hk.2.2.2.2⟩⟩⟩, hk.2.2.1⟩)) : p := h
theorem J56 {p : Prop} (h : p := by repeat (first | (with_reducible first | exact HB.out | apply Xaf | apply X3 | apply X9 | refine X0 ?_ GE176.out | refine X0 ?_ GE183.out) | exact HB.out)) : p := h
theorem J57 {p : Prop} (h : p := by repeat (first | (with_reducible first | exact HB.out | apply Xaf | apply X3 | apply X9 | refine X0 ?_ GE242.out | refine X0 ?_ GE246.out) | exact HB.out)) : p := h
theorem J58 {p : Prop} (h : p := by rw [hg]; exact Nat.ne_of_lt (Xbd (g := gb358) (o := .cells #[.int .i64 a0_0, .slice A0_1 l0_1.length c0_1, .slice A0_2 l0_2.length c0_2, .slice A0_3 l0_3.length c0_3] 30 (0, 0)) (zk BK358.out))) : p := h
theorem J59 {p : Prop} (h : p := by rw [hg]; exact Nat.ne_of_gt (Xbd (g := gb358) (o := .cells #[.int .i64 a0_0, .slice A0_1 l0_1.length c0_1, .slice A0_2 l0_2.length c0_2, .slice A0_3 l0_3.length c0_3] 30 (0, 0)) (zk BK358.out))) : p := h
theorem J60 {p : Prop} (h : p := by repeat (first | (with_reducible first | exact HB.out | apply Xaf | apply X3 | apply X9 | refine X0 ?_ GE358.out | refine X0 ?_ GE359.out) | exact HB.out)) : p := h
theorem J61 {p : Prop} (h : p := by repeat (first | (with_reducible exact HR754_2.out) | (with_reducible refine Kd.C_alloc ?_ _) | (with_reducible refine au ?_ _) | (with_reducible refine Kd.C_drew ?_) | exact HR754_2.out)) : p := h
theorem J62 {p : Prop} (h : p := by (with_reducible repeat (first | refine Xd ?_ _ | refine Xf ?_ | refine Xb ?_ _)); exact BK124.out) : p := h
theorem J63 {p : Prop} (h : p := by rfl) : p := h
theorem J64 {p : Prop} (h : p := by (with_reducible repeat (first | apply Kd.R_alloc | apply ai | apply ak)); exact HO_8.out) : p := h
theorem J65 {p : Prop} (h : p := by (with_reducible repeat (first | apply Kd.V_alloc | apply Kd.V_drewN | apply aA)); exact aj HL754_1.out (fun _ hk => ⟨⟨hk.1.1, ⟨hk.1.2.1, ⟨hk.1.2.2.1, ⟨hk.1.2.2.2.2.1, ⟨hk.2, hk.1.2.2.2.2.2⟩⟩⟩⟩⟩, hk.1.2.2.2.1⟩)) : p := h
theorem J66 {p : Prop} (h : p := by (with_reducible repeat (first | apply Kd.V_alloc | apply Kd.V_drewN | apply aA)); exact aj HL754_2.out (fun _ hk => ⟨⟨hk.1.1, ⟨hk.1.2.1, ⟨hk.1.2.2.1, ⟨hk.1.2.2.2.2.1, ⟨hk.2, hk.1.2.2.2.2.2⟩⟩⟩⟩⟩, hk.1.2.2.2.1⟩)) : p := h
theorem J67 {p : Prop} (h : p := by (with_reducible repeat (first | apply Kd.V_alloc | apply Kd.V_drewN | apply aA)); exact aj HL754_3.out (fun _ hk => ⟨⟨hk.1.1, ⟨hk.1.2.1, ⟨hk.1.2.2.1, ⟨hk.1.2.2.2.2.1, ⟨hk.2, hk.1.2.2.2.2.2⟩⟩⟩⟩⟩, hk.1.2.2.2.1⟩)) : p := h
theorem J68 {p : Prop} (h : p := by repeat (first | (with_reducible first | exact HB.out | apply Xaf | apply X3 | apply X9 | refine X0 ?_ GE176.out) | exact HB.out)) : p := h
theorem J69 {p : Prop} (h : p := by repeat (first | (with_reducible first | exact HB.out | apply Xaf | apply X3 | apply X9 | refine X0 ?_ GE235.out) | exact HB.out)) : p := h
theorem J70 {p : Prop} (h : p := by repeat (first | (with_reducible first | exact HB.out | apply Xaf | apply X3 | apply X9 | refine X0 ?_ GE282.out) | exact HB.out)) : p := h
theorem J71 {p : Prop} (h : p := by first | exact (av HL281_1.out).2.2 | (repeat (first | (with_reducible exact HR281_1.out) | (with_reducible refine Kd.C_alloc ?_ _) | (with_reducible refine au ?_ _) | (with_reducible refine Kd.C_drew ?_) | exact HR281_1.out))) : p := h
theorem J72 {p : Prop} (h : p := by first | exact (av HL281_2.out).2.2 | (repeat (first | (with_reducible exact HR281_2.out) | (with_reducible refine Kd.C_alloc ?_ _) | (with_reducible refine au ?_ _) | (with_reducible refine Kd.C_drew ?_) | exact HR281_2.out))) : p := h
theorem J73 {p : Prop} (h : p := by first | exact (av HL281_3.out).2.2 | (repeat (first | (with_reducible exact HR281_3.out) | (with_reducible refine Kd.C_alloc ?_ _) | (with_reducible refine au ?_ _) | (with_reducible refine Kd.C_drew ?_) | exact HR281_3.out))) : p := h
theorem J74 {p : Prop} (h : p := by simp only [Xb6, Act.put, List.setIfInBounds_toArray, List.set_cons_zero, List.set_cons_succ]) : p := h
theorem J75 {p : Prop} (h : p := by rw [hg]; exact (Xc (zs1 GE345.out))) : p := h
theorem J76 {p : Prop} (h : p := by (with_reducible repeat (first | refine Xd ?_ _ | refine Xf ?_ | refine Xb ?_ _)); exact BK158.out) : p := h
theorem J77 {p : Prop} (h : p := by (with_reducible repeat (first | refine Xd ?_ _ | refine Xf ?_ | refine Xb ?_ _)); exact BK621.out) : p := h
theorem J78 {p : Prop} (h : p := by (with_reducible repeat (first | refine Xd ?_ _ | refine Xf ?_ | refine Xb ?_ _)); exact BK632.out) : p := h
theorem J79 {p : Prop} (h : p := by rw [hg]; exact Nat.ne_of_lt (Xbd (g := gb176) (o := .cells #[.int .i64 0, .slice none 0 0, .slice none 0 0, .slice none 0 0] 30 (0, 0)) (zk BK176.out))) : p := h
theorem J80 {p : Prop} (h : p := by rw [hg]; exact Nat.ne_of_gt (Xbd (g := gb176) (o := .cells #[.int .i64 0, .slice none 0 0, .slice none 0 0, .slice none 0 0] 30 (0, 0)) (zk BK176.out))) : p := h
theorem J81 {p : Prop} (h : p := by (with_reducible repeat (first | refine Xd ?_ _ | refine Xf ?_ | refine Xb ?_ _)); refine Xk (cs := #[.int .i64 x102000_1, .int .i64 0]) ?_ 1 _ rfl; (with_reducible repeat (first | refine Xd ?_ _ | refine Xf ?_ | refine Xb ?_ _)); refine Xk (cs := #[.int .i64 0, .int .i64 0]) ?_ 0 _ rfl; (with_reducible repeat (first | refine Xd ?_ _ | refine Xf ?_ | refine Xb ?_ _)); exact BK102.out) : p := h
theorem J82 {p : Prop} (h : p := by (with_reducible repeat (first | refine Xd ?_ _ | refine Xf ?_ | refine Xb ?_ _)); refine Xk (cs := #[.int .i64 x594000_1, .int .i64 0]) ?_ 1 _ rfl; (with_reducible repeat (first | refine Xd ?_ _ | refine Xf ?_ | refine Xb ?_ _)); refine Xk (cs := #[.int .i64 0, .int .i64 0]) ?_ 0 _ rfl; (with_reducible repeat (first | refine Xd ?_ _ | refine Xf ?_ | refine Xb ?_ _)); exact BK594.out) : p := h
theorem J83 {p : Prop} (h : p := by simp) : p := h
theorem J84 {p : Prop} (h : p := by have := HK1.out; omega) : p := h
theorem J85 {p : Prop} (h : p := by have := HK1.out; first | omega | exact Nat.le_refl _) : p := h
theorem J86 {p : Prop} (h : p := by (with_reducible repeat (first | apply Kd.R_alloc | apply ai | apply ak)); exact af HO651.out (fun _ hk => hk.2)) : p := h
theorem J87 {p : Prop} (h : p := by (with_reducible repeat (first | apply Kd.R_alloc | apply ai | apply ak)); exact af HO655.out (fun _ hk => hk.2)) : p := h
theorem J88 {p : Prop} (h : p := by (with_reducible repeat (first | apply Kd.S_alloc | apply Kd.S_drewN | apply bh)); exact bl HO_3.out (fun _ hk => hk.2)) : p := h
theorem J89 {p : Prop} (h : p := by (with_reducible repeat (first | apply Kd.N_alloc | apply Kd.N_drewN | apply aC)); exact ap HO_4.out (fun _ hk => ⟨hk.1.1, ⟨hk.1.2.1, ⟨hk.2, ⟨hk.1.2.2.1, hk.1.2.2.2.2⟩⟩⟩⟩)) : p := h
theorem J90 {p : Prop} (h : p := by (with_reducible repeat (first | apply Kd.N_alloc | apply Kd.N_drewN | apply aC)); exact ap HO_4.out (fun _ hk => ⟨hk.1, ⟨hk.2.1, ⟨hk.2.2.1, ⟨hk.2.2.2.1, hk.2.2.2.2.2⟩⟩⟩⟩)) : p := h
theorem J91 {p : Prop} (h : p := by have := HJ8.out; have := HK2.out; have := HJ49.out; omega) : p := h
theorem J92 {p : Prop} (h : p := by (with_reducible repeat (first | apply Kd.N_alloc | apply Kd.N_drewN | apply aC)); exact ap HO_7.out (fun _ hk => ⟨hk.1.1, ⟨hk.1.2.1, ⟨hk.2, ⟨hk.1.2.2.1, hk.1.2.2.2⟩⟩⟩⟩)) : p := h
theorem J93 {p : Prop} (h : p := by (with_reducible repeat (first | refine Xd ?_ _ | refine Xf ?_ | refine Xb ?_ _)); refine Xk (cs := #[.int .i64 x633000_3, .slice Ao14 y629.length co14, .slice none 0 0, .slice none 0 0]) ?_ 0 _ rfl; (with_reducible repeat (first | refine Xd ?_ _ | refine Xf ?_ | refine Xb ?_ _)); exact BK632.out) : p := h
theorem J94 {p : Prop} (h : p := by rw [hg]; exact Nat.ne_of_lt (Xbd (g := gb381) (o := .cells #[.int .i64 3, .slice none 0 0, .slice Ao43 t378.length co43, .slice none 0 0] 30 (0, 0)) (zk BK381.out))) : p := h
theorem J95 {p : Prop} (h : p := by rw [hg]; exact Nat.ne_of_gt (Xbd (g := gb381) (o := .cells #[.int .i64 3, .slice none 0 0, .slice Ao43 t378.length co43, .slice none 0 0] 30 (0, 0)) (zk BK381.out))) : p := h
theorem J96 {p : Prop} (h : p := by repeat (first | (with_reducible first | exact HB.out | apply Xaf | apply X3 | apply X9 | refine X0 ?_ GE623.out) | exact HB.out)) : p := h
theorem J97 {p : Prop} (h : p := by repeat (first | (with_reducible first | exact HB.out | apply Xaf | apply X3 | apply X9 | refine X0 ?_ GE697.out) | exact HB.out)) : p := h
theorem J98 {p : Prop} (h : p := by (with_reducible repeat (first | apply Kd.R_alloc | apply ai | apply ak)); exact HO_633001.out) : p := h
theorem J99 {p : Prop} (h : p := by (with_reducible repeat (first | apply Kd.S_alloc | apply Kd.S_drewN | apply bh)); exact bl HO_3.out (fun _ hk => ⟨hk.1.1, ⟨hk.2, hk.1.2⟩⟩)) : p := h
theorem J100 {p : Prop} (h : p := by (with_reducible repeat (first | apply Kd.S_alloc | apply Kd.S_drewN | apply bh)); exact bl HO_3.out (fun _ hk => ⟨hk.1.1, ⟨hk.1.2, hk.2⟩⟩)) : p := h
theorem J101 {p : Prop} (h : p := by (with_reducible repeat (first | apply Kd.R_alloc | apply ai | apply ak)); exact HO757.out) : p := h
theorem J102 {p : Prop} (h : p := by (with_reducible repeat (first | apply Kd.R_alloc | apply ai | apply ak)); exact af HO720.out (fun _ hk => ⟨hk.1.1, hk.2⟩)) : p := h
theorem J103 {p : Prop} (h : p := by (with_reducible repeat (first | apply Kd.R_alloc | apply ai | apply ak)); exact af HO730.out (fun _ hk => ⟨hk.1.1, hk.2⟩)) : p := h
theorem J104 {p : Prop} (h : p := by rw [hg]; exact (Xc (zs1 GE282.out))) : p := h
theorem J105 {p : Prop} (h : p := by first | exact q758 | exact of_decide_eq_true J2 | (have e_ := (ar HO_11.out).1; omega)) : p := h
theorem J106 {p : Prop} (h : p := by first | exact cM _ _ _ _ _ | exact cl _ _ _ _ _ | exact cq _ _ _ _ _ | exact Kd.Q_nil _ _ _ _ _ | exact bw _ _ _ _ _) : p := h
theorem J107 {p : Prop} (h : p := by (with_reducible repeat (first | apply Kd.R_alloc | apply ai | apply ak)); exact af HO333.out (fun _ hk => hk.1)) : p := h
theorem J108 {p : Prop} (h : p := by rw [hg]; exact Nat.ne_of_lt (Xbd (g := gb364) (o := .cells #[.int .i64 ((Xa l0 x17_1).f0), .slice A363_1 ((Xa l0 x17_1).f1).length c363_1, .slice A363_2 ((Xa l0 x17_1).f2).length c363_2, .slice A363_3 ((Xa l0 x17_1).f3).length c363_3] 30 (0, 0)) J6)) : p := h
theorem J109 {p : Prop} (h : p := by rw [hg]; exact Nat.ne_of_gt (Xbd (g := gb364) (o := .cells #[.int .i64 ((Xa l0 x17_1).f0), .slice A363_1 ((Xa l0 x17_1).f1).length c363_1, .slice A363_2 ((Xa l0 x17_1).f2).length c363_2, .slice A363_3 ((Xa l0 x17_1).f3).length c363_3] 30 (0, 0)) J6)) : p := h
theorem J110 {p : Prop} (h : p := by rw [hg]; exact (Xc (zs1 GE711.out))) : p := h
theorem J111 {p : Prop} (h : p := by first | exact HW.out | exact Xcd HW.out) : p := h
theorem J112 {p : Prop} (h : p := by first | simpa using c3 | (simp at c3 ⊢; omega)) : p := h
theorem J113 {p : Prop} (h : p := by (with_reducible repeat (first | refine Xd ?_ _ | refine Xf ?_ | refine Xb ?_ _)); exact BK176.out) : p := h
theorem J114 {p : Prop} (h : p := by (with_reducible repeat (first | apply Kd.V_alloc | apply Kd.V_drewN | apply aA)); exact aj HL281_1.out (fun _ hk => ⟨hk.1.1.1.1.1, ⟨hk.1.1.2, ⟨hk.1.2, ⟨hk.2, ⟨hk.1.1.1.1.2, hk.1.1.1.2⟩⟩⟩⟩⟩)) : p := h
theorem J115 {p : Prop} (h : p := by (with_reducible repeat (first | apply Kd.V_alloc | apply Kd.V_drewN | apply aA)); exact aj HL281_2.out (fun _ hk => ⟨hk.1.1.1.1.1, ⟨hk.1.1.2, ⟨hk.1.2, ⟨hk.2, ⟨hk.1.1.1.1.2, hk.1.1.1.2⟩⟩⟩⟩⟩)) : p := h
theorem J116 {p : Prop} (h : p := by (with_reducible repeat (first | apply Kd.V_alloc | apply Kd.V_drewN | apply aA)); exact aj HL281_3.out (fun _ hk => ⟨hk.1.1.1.1.1, ⟨hk.1.1.2, ⟨hk.1.2, ⟨hk.2, ⟨hk.1.1.1.1.2, hk.1.1.1.2⟩⟩⟩⟩⟩)) : p := h
theorem J117 {p : Prop} (h : p := by (with_reducible repeat (first | apply Kd.V_alloc | apply Kd.V_drewN | apply aA)); exact (gV4 HO380.out)) : p := h
theorem J118 {p : Prop} (h : p := by simp [Value.ownBlock]) : p := h
theorem J119 {p : Prop} (h : p := by (with_reducible repeat (first | apply Kd.V_alloc | apply Kd.V_drewN | apply aA)); exact aj HO0.out (fun _ hk => ⟨hk.1.1.1.1.1, ⟨hk.1.1.2, ⟨hk.1.2, ⟨hk.2, ⟨hk.1.1.1.1.2, hk.1.1.1.2⟩⟩⟩⟩⟩)) : p := h
theorem J120 {p : Prop} (h : p := by have := HJ3.out; have := HJ9.out; have := HK3.out; omega) : p := h
theorem J121 {p : Prop} (h : p := by (with_reducible repeat (first | apply Kd.N_alloc | apply Kd.N_drewN | apply aC)); exact ap HO748.out (fun _ hk => ⟨hk.1.1, ⟨hk.1.2.1, ⟨hk.2, ⟨hk.1.2.2.1, ⟨hk.1.2.2.2.1, hk.1.2.2.2.2⟩⟩⟩⟩⟩)) : p := h
theorem J122 {p : Prop} (h : p := by (with_reducible repeat (first | apply Kd.N_alloc | apply Kd.N_drewN | apply aC)); exact ap HO_4.out (fun _ hk => ⟨hk.1.1, ⟨hk.2, ⟨hk.1.2.1, ⟨hk.1.2.2.1, ⟨hk.1.2.2.2.1, hk.1.2.2.2.2⟩⟩⟩⟩⟩)) : p := h
theorem J123 {p : Prop} (h : p := by (with_reducible repeat (first | apply Kd.N_alloc | apply Kd.N_drewN | apply aC)); exact HO_7.out) : p := h
theorem J124 {p : Prop} (h : p := by (with_reducible repeat (first | apply Kd.N_alloc | apply Kd.N_drewN | apply aC)); exact ap HO_7.out (fun _ hk => ⟨hk.1.1, ⟨hk.1.2.1, ⟨hk.1.2.2.1, ⟨hk.2, hk.1.2.2.2.2⟩⟩⟩⟩)) : p := h
theorem J125 {p : Prop} (h : p := by repeat (first | (with_reducible first | exact HB.out | apply Xaf | apply X3 | apply X9 | refine X0 ?_ GE103.out | refine X0 ?_ GE107.out) | exact HB.out)) : p := h
theorem J126 {p : Prop} (h : p := by repeat (first | (with_reducible first | exact HB.out | apply Xaf | apply X3 | apply X9 | refine X0 ?_ GE282.out | refine X0 ?_ GE305.out) | exact HB.out)) : p := h
theorem J127 {p : Prop} (h : p := by repeat (first | (with_reducible first | exact HB.out | apply Xaf | apply X3 | apply X9 | refine X0 ?_ GE282.out | refine X0 ?_ GE335.out) | exact HB.out)) : p := h
theorem J128 {p : Prop} (h : p := by repeat (first | (with_reducible first | exact HB.out | apply Xaf | apply X3 | apply X9 | refine X0 ?_ GE364.out | refine X0 ?_ GE366.out) | exact HB.out)) : p := h
theorem J129 {p : Prop} (h : p := by repeat (first | (with_reducible first | exact HB.out | apply Xaf | apply X3 | apply X9 | refine X0 ?_ GE595.out | refine X0 ?_ GE599.out) | exact HB.out)) : p := h
theorem J130 {p : Prop} (h : p := by repeat (first | (with_reducible first | exact HB.out | apply Xaf | apply X3 | apply X9 | refine X0 ?_ GE711.out | refine X0 ?_ GE732.out) | exact HB.out)) : p := h
theorem J131 {p : Prop} (h : p := by first | exact q281 | exact of_decide_eq_true J2 | (have e_ := (av HO0.out).1; omega)) : p := h
theorem J132 {p : Prop} (h : p := by have := HK1.out; have := HJ5.out; have := HJ14.out; have := HK4.out; have := HJ27.out; omega) : p := h
theorem J133 {p : Prop} (h : p := by (with_reducible repeat (first | apply Kd.R_alloc | apply ai | apply ak)); exact af (fR4 (al HO_247001.out BK271.out J14)) (fun _ hk => hk.1)) : p := h
theorem J134 {p : Prop} (h : p := by (with_reducible repeat (first | apply Kd.R_alloc | apply ai | apply ak)); exact af (fR4 (al HO_247002.out BK271.out J14)) (fun _ hk => hk.1)) : p := h
theorem J135 {p : Prop} (h : p := by (with_reducible repeat (first | apply Kd.R_alloc | apply ai | apply ak)); exact af (fR4 (al HO_7.out BK271.out J14)) (fun _ hk => trivial)) : p := h
theorem J136 {p : Prop} (h : p := by rw [hg]; exact Nat.ne_of_lt (Xbd (g := gb385) (o := .cells #[.int .i64 5, .slice Ao47 t382.length co47, .slice none 0 0, .slice none 0 0] 30 (0, 0)) (zk BK385.out))) : p := h
theorem J137 {p : Prop} (h : p := by rw [hg]; exact Nat.ne_of_gt (Xbd (g := gb385) (o := .cells #[.int .i64 5, .slice Ao47 t382.length co47, .slice none 0 0, .slice none 0 0] 30 (0, 0)) (zk BK385.out))) : p := h
theorem J138 {p : Prop} (h : p := by repeat (first | (with_reducible first | exact HB.out | apply Xaf | apply X3 | apply X9 | refine X0 ?_ GE122.out) | exact HB.out)) : p := h
theorem J139 {p : Prop} (h : p := by repeat (first | (with_reducible first | exact HB.out | apply Xaf | apply X3 | apply X9 | refine X0 ?_ GE161.out) | exact HB.out)) : p := h
theorem J140 {p : Prop} (h : p := by (with_reducible repeat (first | apply Kd.S_alloc | apply Kd.S_drewN | apply bh)); exact bl HO_3.out (fun _ hk => ⟨hk.2, ⟨hk.1.1, hk.1.2⟩⟩)) : p := h
theorem J141 {p : Prop} (h : p := by have h_ : (x25_1 : Int) < ((x4_1.length : Int) : Int) := of_decide_eq_true J2; first | exact h_ | (have e_ := (ar HO_4.out).1; omega) | simpa using h_) : p := h
theorem J142 {p : Prop} (h : p := by rw [← hq_]; exact (by (with_reducible repeat (first | apply Kd.R_alloc | apply ai | apply ak)); exact af HO182.out (fun _ hk => hk.2))) : p := h
theorem J143 {p : Prop} (h : p := by rw [← hq_]; exact (by (with_reducible repeat (first | apply Kd.R_alloc | apply ai | apply ak)); exact af HO187.out (fun _ hk => hk.2))) : p := h
theorem J144 {p : Prop} (h : p := by have := HJ1.out; have := HK2.out; omega) : p := h
theorem J145 {p : Prop} (h : p := by (with_reducible repeat (first | apply Kd.R_alloc | apply ai | apply ak)); exact af HO658.out (fun _ hk => ⟨trivial, hk⟩)) : p := h
theorem J146 {p : Prop} (h : p := by (with_reducible repeat (first | apply Kd.R_alloc | apply ai | apply ak)); exact af HO655.out (fun _ hk => ⟨trivial, hk⟩)) : p := h
theorem J147 {p : Prop} (h : p := by (with_reducible repeat (first | apply Kd.V_alloc | apply Kd.V_drewN | apply aA)); exact aj HO0.out (fun _ hk => ⟨hk, J118⟩)) : p := h
theorem J148 {p : Prop} (h : p := by have := HK1.out; have := HJ5.out; first | omega | exact Nat.le_refl _) : p := h
theorem J149 {p : Prop} (h : p := by rw [hg]; exact (Xc (zs1 GE176.out))) : p := h
theorem J150 {p : Prop} (h : p := by rw [hg]; exact (Xc (zs1 GE358.out))) : p := h
theorem J151 {p : Prop} (h : p := by rw [hg]; exact Nat.ne_of_lt (Xbd (g := gb101) (o := .cells #[.int .i64 a0_0, .int .i64 a0_1] 38 (0, 0)) (zk BK101.out))) : p := h
theorem J152 {p : Prop} (h : p := by rw [hg]; exact Nat.ne_of_gt (Xbd (g := gb101) (o := .cells #[.int .i64 a0_0, .int .i64 a0_1] 38 (0, 0)) (zk BK101.out))) : p := h
theorem J153 {p : Prop} (h : p := by rw [hg]; exact Nat.ne_of_lt (Xbd (g := gb103) (o := .cells #[.int .i64 a0_0, .int .i64 a0_1] 38 (0, 0)) (zk BK103.out))) : p := h
theorem J154 {p : Prop} (h : p := by rw [hg]; exact Nat.ne_of_gt (Xbd (g := gb103) (o := .cells #[.int .i64 a0_0, .int .i64 a0_1] 38 (0, 0)) (zk BK103.out))) : p := h
theorem J155 {p : Prop} (h : p := by (with_reducible repeat (first | apply Kd.R_alloc | apply ai | apply ak)); exact (gT4 HO297.out BK305.out)) : p := h
theorem J156 {p : Prop} (h : p := by (with_reducible repeat (first | apply Kd.R_alloc | apply ai | apply ak)); exact (gT4 HO300.out BK305.out)) : p := h
theorem J157 {p : Prop} (h : p := by rw [hg]; exact Nat.ne_of_lt (Xbd (g := gb593) (o := .cells #[.int .i64 a0_0, .int .i64 a0_1] 38 (0, 0)) (zk BK593.out))) : p := h
theorem J158 {p : Prop} (h : p := by rw [hg]; exact Nat.ne_of_gt (Xbd (g := gb593) (o := .cells #[.int .i64 a0_0, .int .i64 a0_1] 38 (0, 0)) (zk BK593.out))) : p := h
theorem J159 {p : Prop} (h : p := by rw [hg]; exact Nat.ne_of_lt (Xbd (g := gb595) (o := .cells #[.int .i64 a0_0, .int .i64 a0_1] 38 (0, 0)) (zk BK595.out))) : p := h
theorem J160 {p : Prop} (h : p := by rw [hg]; exact Nat.ne_of_gt (Xbd (g := gb595) (o := .cells #[.int .i64 a0_0, .int .i64 a0_1] 38 (0, 0)) (zk BK595.out))) : p := h
theorem J161 {p : Prop} (h : p := by (with_reducible repeat (first | apply Kd.R_alloc | apply ai | apply ak)); exact (gT2 HO_4.out BK161.out)) : p := h
theorem J162 {p : Prop} (h : p := by (with_reducible repeat (first | refine Xd ?_ _ | refine Xf ?_ | refine Xb ?_ _)); exact BK235.out) : p := h
theorem J163 {p : Prop} (h : p := by (with_reducible repeat (first | refine Xd ?_ _ | refine Xf ?_ | refine Xb ?_ _)); exact BK345.out) : p := h
theorem J164 {p : Prop} (h : p := by (with_reducible repeat (first | refine Xd ?_ _ | refine Xf ?_ | refine Xb ?_ _)); exact BK346.out) : p := h
theorem J165 {p : Prop} (h : p := by (with_reducible repeat (first | refine Xd ?_ _ | refine Xf ?_ | refine Xb ?_ _)); exact BK697.out) : p := h
theorem J166 {p : Prop} (h : p := by (with_reducible repeat (first | apply Kd.V_alloc | apply Kd.V_drewN | apply aA)); exact (gV4 HL281_1.out)) : p := h
theorem J167 {p : Prop} (h : p := by (with_reducible repeat (first | apply Kd.V_alloc | apply Kd.V_drewN | apply aA)); exact (gV4 HL281_2.out)) : p := h
theorem J168 {p : Prop} (h : p := by (with_reducible repeat (first | apply Kd.V_alloc | apply Kd.V_drewN | apply aA)); exact (gV4 HL281_3.out)) : p := h
theorem J169 {p : Prop} (h : p := by (with_reducible repeat (first | apply Kd.V_alloc | apply Kd.V_drewN | apply aA)); exact (gV4 HO384.out)) : p := h
theorem J170 {p : Prop} (h : p := by (with_reducible repeat (first | apply Kd.N_alloc | apply Kd.N_drewN | apply aC)); exact (gN4 HO411.out)) : p := h
theorem J171 {p : Prop} (h : p := by (with_reducible repeat (first | apply Kd.N_alloc | apply Kd.N_drewN | apply aC)); exact (gN4 HO438.out)) : p := h
theorem J172 {p : Prop} (h : p := by (with_reducible repeat (first | apply Kd.N_alloc | apply Kd.N_drewN | apply aC)); exact (gN4 HO455.out)) : p := h
theorem J173 {p : Prop} (h : p := by (with_reducible repeat (first | apply Kd.N_alloc | apply Kd.N_drewN | apply aC)); exact (gN4 HO465.out)) : p := h
theorem J174 {p : Prop} (h : p := by (with_reducible repeat (first | apply Kd.N_alloc | apply Kd.N_drewN | apply aC)); exact (gN4 HO475.out)) : p := h
theorem J175 {p : Prop} (h : p := by (with_reducible repeat (first | apply Kd.N_alloc | apply Kd.N_drewN | apply aC)); exact (gN4 HO815.out)) : p := h
theorem J176 {p : Prop} (h : p := by (with_reducible repeat (first | apply Kd.N_alloc | apply Kd.N_drewN | apply aC)); exact (gN4 HO819.out)) : p := h
theorem J177 {p : Prop} (h : p := by (with_reducible repeat (first | apply Kd.V_alloc | apply Kd.V_drewN | apply aA)); exact (gV4 HO0.out)) : p := h
theorem J178 {p : Prop} (h : p := by have := HK1.out; have := HJ5.out; have := HJ14.out; have := HK4.out; first | omega | exact Nat.le_refl _) : p := h
theorem J179 {p : Prop} (h : p := by (with_reducible repeat (first | apply Kd.R_alloc | apply ai | apply ak)); exact HO140.out) : p := h
theorem J180 {p : Prop} (h : p := by (with_reducible repeat (first | apply Kd.N_alloc | apply Kd.N_drewN | apply aC)); exact HO717.out) : p := h
theorem J181 {p : Prop} (h : p := by (with_reducible repeat (first | apply Kd.N_alloc | apply Kd.N_drewN | apply aC)); exact HO751.out) : p := h
theorem J182 {p : Prop} (h : p := by have := HJ6.out; first | omega | exact Nat.le_refl _) : p := h
theorem J183 {p : Prop} (h : p := by (with_reducible repeat (first | apply Kd.V_alloc | apply Kd.V_drewN | apply aA)); exact HO_0.out) : p := h
theorem J184 {p : Prop} (h : p := by (with_reducible repeat (first | apply Kd.R_alloc | apply ai | apply ak)); exact HO_2.out) : p := h
theorem J185 {p : Prop} (h : p := by (with_reducible repeat (first | apply Kd.R_alloc | apply ai | apply ak)); exact HO_3.out) : p := h
end Go.Proofs.Ytecdklheppcihaa.HTightTells
