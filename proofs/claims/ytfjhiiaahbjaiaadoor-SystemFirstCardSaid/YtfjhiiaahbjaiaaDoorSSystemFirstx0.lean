/- What the Go functions of this claim answer, told as functions of numbers and lists, and that other memory stays as it was: words and walks, shortened by a program. -/
import Derived.Test.YtfjhiiaahbjaiaaDoorProg
import Derived.Below
import Derived.Deep.Draws
import Derived.Deep.AppendLies
import Derived.Maps.AppendAt
import Derived.OwnWalk
import Derived.Laws.BytesArg
import Derived.Laws.MakeOwn
import Derived.Laws.OwnMore
import Derived.Deep.OwnRows
import Derived.Tactics
import Derived.Lib.ConvBytes
import Derived.Laws.Slices
import Derived.WalkKit
import Derived.KernelRfl
import Derived.RowKit3
import Derived.Deep.LoopGhost
import Derived.Deep.QuietTactic
import Derived.BigQuiet
import Derived.WideLaws
import Derived.Deep.DeepCutAuto
import Derived.Deep.CutBlock
import Derived.Deep.RegionHeld3
import Derived.Laws.Rows
import Derived.Lib.AppendStr
import Derived.ArgAppend
import Derived.Laws.IdiomCopy
import Derived.OrdersHeld
import Derived.Laws.BitsLemmas
import Derived.RowKit
import Derived.Lib.SliceRun
import Derived.Lib.SlBytesConst
import Derived.WalkMore
import Derived.Lib.SlBuf
import Derived.Lib.MakeNoZero
import Derived.Laws.Externs
import Derived.Laws.MathBits
import Derived.Shelf.LaysM
import Derived.Shelf.Strconv.Itoa3
import Derived.Lib.AppendIntMem
import Derived.Test.YtfjhiiaahbjaiaaDoorRows
import Derived.Test.YtfjhiiaahbjaiaaDoorSSystemFirstw
namespace Go.Proofs.YtfjhiiaahbjaiaaDoor.HSystemFirst
open Go.RowKit Go.Proofs.YtfjhiiaahbjaiaaDoorW.PrintWords Go.Proofs.YtfjhiiaahbjaiaaDoorW.PrintLast Go.Proofs.YtfjhiiaahbjaiaaDoorW.PrintMore
attribute [local go_sem] Xby Xbw Xcb Xca Xbp Xbo Xbx Xbv
set_option linter.unusedVariables false
set_option linter.unusedSimpArgs false
def errW : Option Int → Value
 | none => .nilIface
 | some c => .iface 0 (.int .i64 c)
theorem Xdt : errW none = .nilIface := rfl
theorem Xds (c : Int) : errW (some c) = .iface 0 (.int .i64 c) := rfl
theorem info3 : (Tryd.prog.info? 3).map (fun i => (i.zero, i.size, i.bytes)) = some (some (.int .i64 0), 1, 8) := by kernel_rfl
theorem info23 : (Tryd.prog.info? 23).map (fun i => (i.zero, i.size, i.bytes)) = some (some (.slice none 0 0), 1, 24) := by kernel_rfl
theorem Xd5 : (Tryd.prog.info? 32).map (fun i => (i.zero, i.size, i.bytes)) = some (some (.agg #[(.int .i64 0), (.slice none 0 0), (.slice none 0 0), (.slice none 0 0)]), 4, 80) := by kernel_rfl
theorem info40 : (Tryd.prog.info? 40).map (fun i => (i.zero, i.size, i.bytes)) = some (some (.agg #[(.int .i64 0), (.int .i64 0)]), 2, 16) := by kernel_rfl
structure S40 where
 f0 : Int
 f1 : Int
def z40 : S40 := ⟨(0 : Int), (0 : Int)⟩
def k40 : Kd S40 := Kd.iso (Kd.pair (Kd.int .i64) (Kd.int .i64)) (fun x : S40 => (x.f0, x.f1))
theorem k40_heap : Kd.Heap k40 := Kd.heap_iso _ (Kd.heap_pair (Kd.heap_int .i64) (Kd.heap_int .i64))
theorem k40_open {w : World} {x : S40} {cs : List Value} (h : k40.K w x cs) : cs = [.int .i64 x.f0, .int .i64 x.f1] := by
 obtain ⟨_, _, rfl, rfl, rfl⟩ := h
 exact rfl
theorem k40_mk (w : World) (x : S40)  : k40.K w x [.int .i64 x.f0, .int .i64 x.f1] := ⟨[.int .i64 x.f0], [.int .i64 x.f1], rfl, rfl, rfl⟩
theorem Xde (w : World) (base : Nat) (ok : Nat → Prop) (x : S40)  : k40.M w base ok x [.int .i64 x.f0, .int .i64 x.f1] := ⟨[.int .i64 x.f0], [.int .i64 x.f1], rfl, rfl, rfl⟩
def Xv (xs : List S40) (i : Int) : S40 := xs.getD i.toNat z40
theorem Xcf {w : World} {A : Option Addr} {n : Nat} {xs : List S40} (h : Kd.C k40 w A n xs) (i : Int) (h0 : 0 ≤ i) (h1 : i < n) : ∃ ad , A = some ad ∧ w.cell? (ad.add (i.toNat * 2)) = some (.int .i64 (Xv xs i).f0) ∧ w.cell? ⟨(ad.add (i.toNat * 2)).block, (ad.add (i.toNat * 2)).off + 1, none⟩ = some (.int .i64 (Xv xs i).f1) := by
 obtain ⟨ad, c, e, _, hK, hc0⟩ := Kd.C_get h z40 i h0 h1
 have hc : ∀ j u, c[j]? = some u → w.cell? (ad.add (i.toNat * 2 + j)) = some u := hc0
 obtain rfl := k40_open hK
 exact ⟨ad, e, hc 0 _ rfl, by rw [← Xch _ _ 1 (by omega)]; exact hc 1 _ rfl⟩
structure S32 where
 f0 : Int
 f1 : (List Int)
 f2 : (List Int)
 f3 : (List S40)
def z32 : S32 := ⟨(0 : Int), ([] : List Int), ([] : List Int), ([] : List S40)⟩
def k32 : Kd S32 := Kd.iso (Kd.pair (Kd.int .i64) (Kd.pair (Kd.slice 3 (Kd.int .i64)) (Kd.pair (Kd.slice 3 (Kd.int .i64)) (Kd.slice 40 k40)))) (fun x : S32 => (x.f0, x.f1, x.f2, x.f3))
theorem k32_heap : Kd.Heap k32 := Kd.heap_iso _ (Kd.heap_pair (Kd.heap_int .i64) (Kd.heap_pair (Kd.heap_slice 3 (Kd.heap_int .i64)) (Kd.heap_pair (Kd.heap_slice 3 (Kd.heap_int .i64)) (Kd.heap_slice 40 k40_heap))))
theorem Xdh {w : World} {x : S32} {cs : List Value} (h : k32.K w x cs) : ∃ A1 c1 A2 c2 A3 c3, cs = [.int .i64 x.f0, .slice A1 x.f1.length c1, .slice A2 x.f2.length c2, .slice A3 x.f3.length c3] ∧ x.f1.length ≤ c1 ∧ (Kd.int .i64).C w A1 x.f1.length x.f1 ∧ x.f2.length ≤ c2 ∧ (Kd.int .i64).C w A2 x.f2.length x.f2 ∧ x.f3.length ≤ c3 ∧ k40.C w A3 x.f3.length x.f3 := by
 obtain ⟨_, _, rfl, rfl, ⟨_, _, rfl, ⟨A1, c1, rfl, l1, g1⟩, ⟨_, _, rfl, ⟨A2, c2, rfl, l2, g2⟩, ⟨A3, c3, rfl, l3, g3⟩⟩⟩⟩ := h
 exact ⟨A1, c1, A2, c2, A3, c3, rfl, l1, g1, l2, g2, l3, g3⟩
theorem k32_mk (w : World) (x : S32) {A1 : Option Addr} {c1 : Nat} (l1 : x.f1.length ≤ c1) (g1 : (Kd.int .i64).C w A1 x.f1.length x.f1) {A2 : Option Addr} {c2 : Nat} (l2 : x.f2.length ≤ c2) (g2 : (Kd.int .i64).C w A2 x.f2.length x.f2) {A3 : Option Addr} {c3 : Nat} (l3 : x.f3.length ≤ c3) (g3 : k40.C w A3 x.f3.length x.f3) : k32.K w x [.int .i64 x.f0, .slice A1 x.f1.length c1, .slice A2 x.f2.length c2, .slice A3 x.f3.length c3] := ⟨[.int .i64 x.f0], [.slice A1 x.f1.length c1, .slice A2 x.f2.length c2, .slice A3 x.f3.length c3], rfl, rfl, ⟨[.slice A1 x.f1.length c1], [.slice A2 x.f2.length c2, .slice A3 x.f3.length c3], rfl, ⟨A1, c1, rfl, l1, g1⟩, ⟨[.slice A2 x.f2.length c2], [.slice A3 x.f3.length c3], rfl, ⟨A2, c2, rfl, l2, g2⟩, ⟨A3, c3, rfl, l3, g3⟩⟩⟩⟩
theorem k32_mkM (w : World) (base : Nat) (ok : Nat → Prop) (x : S32) {v1 : Value} (g1 : (Kd.int .i64).R 3 w base ok v1 x.f1) {v2 : Value} (g2 : (Kd.int .i64).R 3 w base ok v2 x.f2) {v3 : Value} (g3 : k40.R 40 w base ok v3 x.f3) : k32.M w base ok x [.int .i64 x.f0, v1, v2, v3] := ⟨[.int .i64 x.f0], [v1, v2, v3], rfl, rfl, ⟨[v1], [v2, v3], rfl, ⟨v1, rfl, g1⟩, ⟨[v2], [v3], rfl, ⟨v2, rfl, g2⟩, ⟨v3, rfl, g3⟩⟩⟩⟩
theorem Xeb {W : World} {ok : Nat → Prop} {x : S32} {cs : List Value} (h : Kd.FK k32 W ok x cs) : ∃ A1 c1 A2 c2 A3 c3, cs = [.int .i64 x.f0, .slice A1 x.f1.length c1, .slice A2 x.f2.length c2, .slice A3 x.f3.length c3] ∧ x.f1.length ≤ c1 ∧ Kd.F (Kd.int .i64) W ok A1 x.f1.length x.f1 ∧ x.f2.length ≤ c2 ∧ Kd.F (Kd.int .i64) W ok A2 x.f2.length x.f2 ∧ x.f3.length ≤ c3 ∧ Kd.F k40 W ok A3 x.f3.length x.f3 := by
 obtain ⟨A1, c1, A2, c2, A3, c3, rfl, l1, _, l2, _, l3, _⟩ := Xdh (Kd.FK_now h)
 exact ⟨A1, c1, A2, c2, A3, c3, rfl, l1, (fun W' hW => by obtain ⟨A1_, c1_, A2_, c2_, A3_, c3_, he, l1_, g1_, l2_, g2_, l3_, g3_⟩ := Xdh (h W' hW); injection (Option.some.inj (show some (Value.slice A1 x.f1.length c1) = some (Value.slice A1_ x.f1.length c1_) from congrArg (fun l => l[1]?) he)) with ha_ _ _; rw [ha_]; exact g1_), l2, (fun W' hW => by obtain ⟨A1_, c1_, A2_, c2_, A3_, c3_, he, l1_, g1_, l2_, g2_, l3_, g3_⟩ := Xdh (h W' hW); injection (Option.some.inj (show some (Value.slice A2 x.f2.length c2) = some (Value.slice A2_ x.f2.length c2_) from congrArg (fun l => l[2]?) he)) with ha_ _ _; rw [ha_]; exact g2_), l3, (fun W' hW => by obtain ⟨A1_, c1_, A2_, c2_, A3_, c3_, he, l1_, g1_, l2_, g2_, l3_, g3_⟩ := Xdh (h W' hW); injection (Option.some.inj (show some (Value.slice A3 x.f3.length c3) = some (Value.slice A3_ x.f3.length c3_) from congrArg (fun l => l[3]?) he)) with ha_ _ _; rw [ha_]; exact g3_)⟩
theorem Xcx (W : World) (ok : Nat → Prop) (x : S32) {A1 : Option Addr} {c1 : Nat} (l1 : x.f1.length ≤ c1) (g1 : Kd.F (Kd.int .i64) W ok A1 x.f1.length x.f1) {A2 : Option Addr} {c2 : Nat} (l2 : x.f2.length ≤ c2) (g2 : Kd.F (Kd.int .i64) W ok A2 x.f2.length x.f2) {A3 : Option Addr} {c3 : Nat} (l3 : x.f3.length ≤ c3) (g3 : Kd.F k40 W ok A3 x.f3.length x.f3) : Kd.FK k32 W ok x [.int .i64 x.f0, .slice A1 x.f1.length c1, .slice A2 x.f2.length c2, .slice A3 x.f3.length c3] := fun W2 hW => k32_mk W2 x l1 (g1 W2 hW) l2 (g2 W2 hW) l3 (g3 W2 hW)
def Xa (xs : List S32) (i : Int) : S32 := xs.getD i.toNat z32
theorem Xbz {w : World} {A : Option Addr} {n : Nat} {xs : List S32} (h : Kd.C k32 w A n xs) (i : Int) (h0 : 0 ≤ i) (h1 : i < n) : ∃ ad A1 c1 A2 c2 A3 c3, A = some ad ∧ w.cell? (ad.add (i.toNat * 4)) = some (.int .i64 (Xa xs i).f0) ∧ w.cell? ⟨(ad.add (i.toNat * 4)).block, (ad.add (i.toNat * 4)).off + 1, none⟩ = some (.slice A1 (Xa xs i).f1.length c1) ∧ w.cell? ⟨(ad.add (i.toNat * 4)).block, (ad.add (i.toNat * 4)).off + 2, none⟩ = some (.slice A2 (Xa xs i).f2.length c2) ∧ w.cell? ⟨(ad.add (i.toNat * 4)).block, (ad.add (i.toNat * 4)).off + 3, none⟩ = some (.slice A3 (Xa xs i).f3.length c3) ∧ (Xa xs i).f1.length ≤ c1 ∧ (Kd.int .i64).C w A1 (Xa xs i).f1.length (Xa xs i).f1 ∧ (Xa xs i).f2.length ≤ c2 ∧ (Kd.int .i64).C w A2 (Xa xs i).f2.length (Xa xs i).f2 ∧ (Xa xs i).f3.length ≤ c3 ∧ k40.C w A3 (Xa xs i).f3.length (Xa xs i).f3 := by
 obtain ⟨ad, c, e, _, hK, hc0⟩ := Kd.C_get h z32 i h0 h1
 have hc : ∀ j u, c[j]? = some u → w.cell? (ad.add (i.toNat * 4 + j)) = some u := hc0
 obtain ⟨A1, c1, A2, c2, A3, c3, rfl, l1, g1, l2, g2, l3, g3⟩ := Xdh hK
 exact ⟨ad, A1, c1, A2, c2, A3, c3, e, hc 0 _ rfl, by rw [← Xch _ _ 1 (by omega)]; exact hc 1 _ rfl, by rw [← Xch _ _ 2 (by omega)]; exact hc 2 _ rfl, by rw [← Xch _ _ 3 (by omega)]; exact hc 3 _ rfl, l1, g1, l2, g2, l3, g3⟩
def Xa3 (xs : List (List S32)) (i : Int) : (List S32) := xs.getD i.toNat ([] : List S32)
theorem at_L5 {w : World} {A : Option Addr} {n : Nat} {xs : List (List S32)} (h : Kd.C (Kd.slice 32 k32) w A n xs) (i : Int) (h0 : 0 ≤ i) (h1 : i < n) : ∃ ad A0 c0, A = some ad ∧ w.cell? (ad.add i.toNat) = some (.slice A0 (Xa3 xs i).length c0) ∧ (Xa3 xs i).length ≤ c0 ∧ k32.C w A0 (Xa3 xs i).length (Xa3 xs i) := by
 obtain ⟨ad, c, e, _, hK, hc0⟩ := Kd.C_get h ([] : List S32) i h0 h1
 have hc : ∀ j u, c[j]? = some u → w.cell? (ad.add (i.toNat * 1 + j)) = some u := hc0
 obtain ⟨A0, c0, rfl, l0, g0⟩ := hK
 exact ⟨ad, A0, c0, e, by have hq := hc 0 _ rfl; rwa [Nat.mul_one, Nat.add_zero] at hq, l0, g0⟩
end Go.Proofs.YtfjhiiaahbjaiaaDoor.HSystemFirst
namespace Go.Proofs.YtfjhiiaahbjaiaaDoor.HSystemFirst
open Go.RowKit Go.Proofs.YtfjhiiaahbjaiaaDoorW.PrintWords Go.Proofs.YtfjhiiaahbjaiaaDoorW.PrintLast Go.Proofs.YtfjhiiaahbjaiaaDoorW.PrintMore
set_option linter.unusedVariables false
theorem mz0 {p : Prop} (h : p := by repeat' first | (with_reducible apply ih0) | (with_reducible apply ih1) | (with_reducible apply ih2) | (with_reducible apply ih3) | (with_reducible apply ih4) | (with_reducible apply ih5) | (with_reducible apply ih6) | (with_reducible apply ih7) | (with_reducible apply ih8) | (with_reducible exact LeO.refl _) | (with_reducible exact LeO.none _) | (with_reducible refine LeO.ite ?_ ?_) | (with_reducible refine LeO.bind ?_ (fun _ => ?_)) | apply ih0 | apply ih1 | apply ih2 | apply ih3 | apply ih4 | apply ih5 | apply ih6 | apply ih7 | apply ih8 | exact LeO.none _ | refine LeO.ite ?_ ?_ | refine LeO.bind ?_ (fun _ => ?_)) : p := h
theorem mz3 {p : Prop} (h : p := by repeat' first | (with_reducible apply ih0) | (with_reducible apply ih1) | (with_reducible apply ih2) | (with_reducible apply ih3) | (with_reducible apply ih4) | (with_reducible apply ih5) | (with_reducible apply ih6) | (with_reducible apply ih7) | (with_reducible apply ih8) | (with_reducible apply im0) | (with_reducible apply im1) | (with_reducible apply im2) | (with_reducible exact LeO.refl _) | (with_reducible exact LeO.none _) | (with_reducible refine LeO.ite ?_ ?_) | (with_reducible refine LeO.bind ?_ (fun _ => ?_)) | apply ih0 | apply ih1 | apply ih2 | apply ih3 | apply ih4 | apply ih5 | apply ih6 | apply ih7 | apply ih8 | apply im0 | apply im1 | apply im2 | exact LeO.none _ | refine LeO.ite ?_ ?_ | refine LeO.bind ?_ (fun _ => ?_)) : p := h
theorem bxw {P : Program} {ops : Array Oper} {rest : List Oper} {o : Oper} {a : Act} {Q : Exit → Act → World → Prop} {W : World} (N : Tmp) (t : TypeId) (cs : Array Value) (h : ∀ g, g = W.heap.size → ∀ w1, w1.heap[g]? = some (.cells cs t (0, 0)) → Below W.heap.size W w1 → wpList P ops Q rest (a.put o.dst (.pointer (some ⟨g, 0, none⟩))) w1) (hg : o.guard = none := by rfl) (hd : o.dst = some N := by rfl) (hr : (execOp a.eval o).run P W = .ok (.value (.pointer (some ⟨W.heap.size, 0, none⟩))) (W.alloc (.cells cs t (0, 0))) := by first | (go_simp; done) | (go_simp; rfl)) : wpList P ops Q (o :: rest) a W := Xc9 hg hd hr h
theorem zs1 {q0 p : Prop} (h0 : q0) (i : q0 → p := by intro g0_; repeat (first | (with_reducible first | exact HB.out | apply Xah | apply Xy | apply X8 | refine X2 ?_ g0_) | exact HB.out)) : p := i h0
theorem zk {q p : Prop} (h : q) (i : q → p := by intro h_; (with_reducible repeat (first | refine Xc ?_ _ | refine Xe ?_ | refine Xb ?_ _)); exact h_) : p := i h
theorem zc {q p : Prop} (h : q) (i : q → p := by intro h_; repeat (first | exact h_ | (with_reducible refine Kd.C_alloc ?_ _) | (with_reducible refine Kd.C_drewN ?_ _) | (with_reducible refine Kd.C_drew ?_))) : p := i h
theorem pz0 {p : Prop} (h : p := by intro w'; go_simp; with_reducible rfl) : p := h
theorem pz1 {p : Prop} (h : p := by simp only [Act.put, List.setIfInBounds_toArray, List.set_cons_zero, List.set_cons_succ, Xbd, Xbh]; rfl) : p := h
abbrev Y : Bool := true
abbrev Z : Bool := false
theorem zr {q p : Prop} (h : q) (i : q → p := by intro h_; (with_reducible repeat (first | apply Kd.R_alloc | apply Kd.R_drewN | apply Kd.R_drew)); exact h_) : p := i h
theorem zs2 {q0 q1 p : Prop} (h0 : q0) (h1 : q1) (i : q0 → q1 → p := by intro g0_ g1_; repeat (first | (with_reducible first | exact HB.out | apply Xah | apply Xy | apply X8 | refine X2 ?_ g0_ | refine X2 ?_ g1_) | exact HB.out)) : p := i h0 h1
theorem lwR {P : Program} {ops : Array Oper} {rest : List Oper} {o : Oper} {a : Act} {Q : Exit → Act → World → Prop} {α : Type} (d : Kd α) {W : World} (e : Nat) (N : Tmp) (inner : List Value) {xs y : List α} (hy : Aside0 (y = xs)) (hp : Reps (d.M W W.heap.size fun _ => True) d.sz xs inner) (h : ∀ v1 w1, Kd.R d e w1 W.heap.size (fun _ => True) v1 y → Below W.heap.size W w1 → wpList P ops Q rest (a.put o.dst v1) w1) (hg : o.guard = none := by rfl) (hd : o.dst = some N := by rfl) (hr : (execOp a.eval o).run P W = .ok (.value (.slice (some ⟨W.heap.size, 0, none⟩) xs.length xs.length)) (W.alloc (.cells inner.toArray e)) := by first | (go_simp; done) | (go_simp; rfl)) (hm : xs.length ≤ 9223372036854775807 := by simp) : wpList P ops Q (o :: rest) a W := Kd.R_lit d _ e hg hd hr hp (fun _ hk => hk) trivial (Below.refl _ _) (Nat.le_refl _) hm (fun v1 w1 h1 h2 _ _ => h v1 w1 (hy.out ▸ h1) h2)
theorem zn {q p : Prop} (h : q) (i : q → p := by intro h_; (with_reducible repeat (first | apply Kd.N_alloc | apply Kd.N_drewN | apply Kd.N_drew)); exact h_) : p := i h
theorem mz5 {p : Prop} (h : p := by repeat' first | (with_reducible apply ih0) | (with_reducible apply ih1) | (with_reducible apply ih2) | (with_reducible apply ih3) | (with_reducible apply ih4) | (with_reducible apply ih5) | (with_reducible apply ih6) | (with_reducible apply ih7) | (with_reducible apply ih8) | (with_reducible apply im0) | (with_reducible apply im1) | (with_reducible apply im2) | (with_reducible apply im3) | (with_reducible apply im4) | (with_reducible exact LeO.refl _) | (with_reducible exact LeO.none _) | (with_reducible refine LeO.ite ?_ ?_) | (with_reducible refine LeO.bind ?_ (fun _ => ?_)) | apply ih0 | apply ih1 | apply ih2 | apply ih3 | apply ih4 | apply ih5 | apply ih6 | apply ih7 | apply ih8 | apply im0 | apply im1 | apply im2 | apply im3 | apply im4 | exact LeO.none _ | refine LeO.ite ?_ ?_ | refine LeO.bind ?_ (fun _ => ?_)) : p := h
theorem zv {q p : Prop} (h : q) (i : q → p := by intro h_; (with_reducible repeat (first | apply Kd.V_alloc | apply Kd.V_drewN | apply Kd.V_drew)); exact h_) : p := i h
theorem zs3 {q0 q1 q2 p : Prop} (h0 : q0) (h1 : q1) (h2 : q2) (i : q0 → q1 → q2 → p := by intro g0_ g1_ g2_; repeat (first | (with_reducible first | exact HB.out | apply Xah | apply Xy | apply X8 | refine X2 ?_ g0_ | refine X2 ?_ g1_ | refine X2 ?_ g2_) | exact HB.out)) : p := i h0 h1 h2
theorem zb {q p : Prop} (h : q) (i : q → p := by intro h_; first | (rw [Xc0]; exact h_) | (show (Addr.add _ _).block ≠ _; rw [Xc0]; exact h_) | exact h_) : p := i h
theorem lwN {P : Program} {ops : Array Oper} {rest : List Oper} {o : Oper} {a : Act} {Q : Exit → Act → World → Prop} {α : Type} (d : Kd α) {W : World} (e : Nat) (N : Tmp) (inner : List Value) {xs y : List α} (hy : Aside0 (y = xs)) (hp : Reps (Kd.FK d W fun _ => True) d.sz xs inner) (h : ∀ v1 w1, Kd.N d e w1 W.heap.size (fun _ => True) v1 y → Below W.heap.size W w1 → wpList P ops Q rest (a.put o.dst v1) w1) (hg : o.guard = none := by rfl) (hd : o.dst = some N := by rfl) (hr : (execOp a.eval o).run P W = .ok (.value (.slice (some ⟨W.heap.size, 0, none⟩) xs.length xs.length)) (W.alloc (.cells inner.toArray e)) := by first | (go_simp; done) | (go_simp; rfl)) (hm : xs.length ≤ 9223372036854775807 := by simp) : wpList P ops Q (o :: rest) a W := Kd.N_lit d _ e hg hd hr hp (fun _ hk => hk) trivial (Below.refl _ _) (Nat.le_refl _) hm (fun v1 w1 h1 h2 _ _ => h v1 w1 (hy.out ▸ h1) h2)
theorem zq {p : Prop} (h : p) : Aside0 p := ⟨h⟩
theorem yt {α : Type} {c : Prop} {_ : Decidable c} {a b : Option α} {r : α} {p : Prop} (h : (if c then a else b) = some r) (f : ¬c → b = some r → p) (g : c → a = some r → p) : p := by
 by_cases k : c
 ·exact g k ((if_pos k).symm.trans h)
 ·exact f k ((if_neg k).symm.trans h)
theorem yu {α : Type} {c : Prop} {_ : Decidable c} {a b : Option α} {r : α} {p : Prop} (h : (if c then a else b) = some r) (g : c → a = some r → p) (f : ¬c → b = some r → p) : p := yt h f g
theorem yd {α : Type} {c : Prop} {_ : Decidable c} {a b : Option α} {r : α} {p : Prop} (h : (if c then a else b) = some r) (f : decide c = false → b = some r → p) (g : decide c = true → a = some r → p) : p := yt h (fun k => f (decide_eq_false k)) (fun k => g (decide_eq_true k))
theorem yD {α : Type} {c : Prop} {_ : Decidable c} {a b : Option α} {r : α} {p : Prop} (h : (if c then a else b) = some r) (g : decide c = true → a = some r → p) (f : decide c = false → b = some r → p) : p := yd h f g
theorem yi {α : Type} {c : Prop} {_ : Decidable c} {a : Option α} {r : α} {p : Prop} (h : (if c then a else none) = some r) (g : c → a = some r → p) : p := yt h (fun _ x => nomatch x) g
theorem yI {α : Type} {c : Prop} {_ : Decidable c} {a : Option α} {r : α} {p : Prop} (h : (if c then none else a) = some r) (g : ¬c → a = some r → p) : p := yt h g (fun _ x => nomatch x)
theorem yj {α : Type} {c : Prop} {_ : Decidable c} {a : Option α} {r : α} {p : Prop} (h : (if c then a else none) = some r) (g : decide c = true → a = some r → p) : p := yi h (fun k => g (decide_eq_true k))
theorem yB {α : Type} {t : Bool} {_ : Decidable (t = true)} {a b : Option α} {r : α} {p : Prop} (h : (if t = true then a else b) = some r) (f : t = false → b = some r → p) (g : t = true → a = some r → p) : p := yt h (fun k => f (Bool.eq_false_iff.mpr k)) g
theorem yC {α : Type} {t : Bool} {_ : Decidable (t = true)} {a b : Option α} {r : α} {p : Prop} (h : (if t = true then a else b) = some r) (g : t = true → a = some r → p) (f : t = false → b = some r → p) : p := yB h f g
theorem yE {α β : Type} [BEq β] [LawfulBEq β] {x y : β} {_ : Decidable (x = y)} {a b : Option α} {r : α} {p : Prop} (h : (if x = y then a else b) = some r) (f : (x == y) = false ∧ (x != y) = true ∧ ¬ x = y → b = some r → p) (g : (x == y) = true ∧ (x != y) = false ∧ x = y → a = some r → p) : p := yt h (fun k => f ⟨beq_eq_false_iff_ne.mpr k, bne_iff_ne.mpr k, k⟩) (fun k => g ⟨beq_iff_eq.mpr k, bne_eq_false_iff_eq.mpr k, k⟩)
theorem yF {α β : Type} [BEq β] [LawfulBEq β] {x y : β} {_ : Decidable (x = y)} {a b : Option α} {r : α} {p : Prop} (h : (if x = y then a else b) = some r) (g : (x == y) = true ∧ (x != y) = false ∧ x = y → a = some r → p) (f : (x == y) = false ∧ (x != y) = true ∧ ¬ x = y → b = some r → p) : p := yE h f g
theorem yv {α β : Type} {x : Option α} {f : α → Option β} {r : β} {p : Prop} (h : x.bind f = some r) (g : ∀ t, Aside0 (x = some t) → f t = some r → p) : p :=
 let ⟨t, k, e⟩ := Option.bind_eq_some_iff.mp h
 g t ⟨k⟩ e
theorem yp2 {A0 A1 : Type} {a0 b0 : A0} {a1 b1 : A1} (h : some (a0, a1) = some (b0, b1)) : a0 = b0 ∧ a1 = b1 := by
 simpa only [Option.some.injEq, Prod.mk.injEq] using h
theorem yp3 {A0 A1 A2 : Type} {a0 b0 : A0} {a1 b1 : A1} {a2 b2 : A2} (h : some (a0, a1, a2) = some (b0, b1, b2)) : a0 = b0 ∧ a1 = b1 ∧ a2 = b2 := by
 simpa only [Option.some.injEq, Prod.mk.injEq] using h
theorem yp5 {A0 A1 A2 A3 A4 : Type} {a0 b0 : A0} {a1 b1 : A1} {a2 b2 : A2} {a3 b3 : A3} {a4 b4 : A4} (h : some (a0, a1, a2, a3, a4) = some (b0, b1, b2, b3, b4)) : a0 = b0 ∧ a1 = b1 ∧ a2 = b2 ∧ a3 = b3 ∧ a4 = b4 := by
 simpa only [Option.some.injEq, Prod.mk.injEq] using h
theorem yo {α : Type} {a b : α} (h : some a = some b) : a = b := Option.some.inj h
theorem yh {w w' : World} {a : Addr} {v : Value} (hb : Aside0 (Below w.heap.size w w')) (h : w.cell? a = some v) : w'.cell? a = some v := (hb.out.cell (World.block_lt_of_cell? w _ h)).trans h
theorem cz2 {w : World} {g : Nat} {t : TypeId} {a0 a1 : Value} (h : w.heap[g]? = some (.cells #[a0, a1] t (0, 0))) : w.cell? ⟨g, 0, none⟩ = some a0 ∧ w.cell? ⟨g, 1, none⟩ = some a1 ∧ w.frozen? ⟨g, 0, none⟩ = false ∧ w.frozen? ⟨g, 1, none⟩ = false :=
 ⟨(Xm h 0).trans rfl, (Xm h 1).trans rfl, Xa8 h 0, Xa8 h 1⟩
theorem cz4 {w : World} {g : Nat} {t : TypeId} {a0 a1 a2 a3 : Value} (h : w.heap[g]? = some (.cells #[a0, a1, a2, a3] t (0, 0))) : w.cell? ⟨g, 0, none⟩ = some a0 ∧ w.cell? ⟨g, 1, none⟩ = some a1 ∧ w.cell? ⟨g, 2, none⟩ = some a2 ∧ w.cell? ⟨g, 3, none⟩ = some a3 ∧ w.frozen? ⟨g, 0, none⟩ = false ∧ w.frozen? ⟨g, 1, none⟩ = false ∧ w.frozen? ⟨g, 2, none⟩ = false ∧ w.frozen? ⟨g, 3, none⟩ = false :=
 ⟨(Xm h 0).trans rfl, (Xm h 1).trans rfl, (Xm h 2).trans rfl, (Xm h 3).trans rfl, Xa8 h 0, Xa8 h 1, Xa8 h 2, Xa8 h 3⟩
theorem J0 {p : Prop} (h : p := by repeat (first | (with_reducible first | exact HB.out | apply Xah | apply Xy | apply X8) | exact HB.out)) : p := h
theorem J1 {p : Prop} (h : p := by (try simp only [List.map_toArray, List.map_cons, List.map_nil]); first | done | rfl | (simp only [List.length_drop, List.length_take]; rfl)) : p := h
theorem J2 {p : Prop} (h : p := by first | rfl | (simp [Xdt, Xds] <;> rfl) | (simp [*, Xdt, Xds] <;> rfl)) : p := h
theorem J3 {p : Prop} (h : p := by first | (with_reducible assumption) | assumption) : p := h
theorem J4 {p : Prop} (h : p := by first | rfl | (simp; done) | (simp [*]; done)) : p := h
theorem J5 {p : Prop} (h : p := by repeat (first | exact Drawn0.refl _ | apply Drawn0.step)) : p := h
theorem J6 {p : Prop} (h : p := by repeat (first | (with_reducible first | exact HB.out | apply Xah | apply Xy | apply X8 | refine X2 ?_ GE112.out) | exact HB.out)) : p := h
theorem J7 {p : Prop} (h : p := by (with_reducible repeat (first | refine Xc ?_ _ | refine Xe ?_ | refine Xb ?_ _)); refine Xj (cs := #[.int .i64 ((Xa l0 x17_1).f0), .slice A464_1 ((Xa l0 x17_1).f1).length c464_1, .slice A464_2 ((Xa l0 x17_1).f2).length c464_2, .slice none 0 0]) ?_ 3 _ rfl; (with_reducible repeat (first | refine Xc ?_ _ | refine Xe ?_ | refine Xb ?_ _)); refine Xj (cs := #[.int .i64 ((Xa l0 x17_1).f0), .slice A464_1 ((Xa l0 x17_1).f1).length c464_1, .slice none 0 0, .slice none 0 0]) ?_ 2 _ rfl; (with_reducible repeat (first | refine Xc ?_ _ | refine Xe ?_ | refine Xb ?_ _)); refine Xj (cs := #[.int .i64 ((Xa l0 x17_1).f0), .slice none 0 0, .slice none 0 0, .slice none 0 0]) ?_ 1 _ rfl; (with_reducible repeat (first | refine Xc ?_ _ | refine Xe ?_ | refine Xb ?_ _)); refine Xj (cs := #[.int .i64 0, .slice none 0 0, .slice none 0 0, .slice none 0 0]) ?_ 0 _ rfl; (with_reducible repeat (first | refine Xc ?_ _ | refine Xe ?_ | refine Xb ?_ _)); exact BK465.out) : p := h
theorem J8 {p : Prop} (h : p := by kernel_rfl) : p := h
theorem J9 {p : Prop} (h : p := by first | exact Kd.R_nil _ _ _ _ _ | exact Kd.N_nil _ _ _ _ _ | exact Kd.V_nil _ _ _ _ _ | exact Kd.Q_nil _ _ _ _ _ | exact Kd.S_nil _ _ _ _ _) : p := h
theorem J10 {p : Prop} (h : p := by repeat (first | (with_reducible first | exact HB.out | apply Xah | apply Xy | apply X8 | refine X2 ?_ GE130.out | refine X2 ?_ GE139.out) | exact HB.out)) : p := h
theorem J11 {p : Prop} (h : p := by decide) : p := h
theorem J12 {p : Prop} (h : p := by rw [hg]; exact (Xf J0)) : p := h
theorem J13 {p : Prop} (h : p := by (with_reducible repeat (first | refine Xc ?_ _ | refine Xe ?_ | refine Xb ?_ _)); exact BK112.out) : p := h
theorem J14 {p : Prop} (h : p := by (with_reducible repeat (first | refine Xc ?_ _ | refine Xe ?_ | refine Xb ?_ _)); refine Xj (cs := #[.int .i64 ((Xa l0 0).f0), .slice A393_1 ((Xa l0 0).f1).length c393_1, .slice A393_2 ((Xa l0 0).f2).length c393_2, .slice none 0 0]) ?_ 3 _ rfl; (with_reducible repeat (first | refine Xc ?_ _ | refine Xe ?_ | refine Xb ?_ _)); refine Xj (cs := #[.int .i64 ((Xa l0 0).f0), .slice A393_1 ((Xa l0 0).f1).length c393_1, .slice none 0 0, .slice none 0 0]) ?_ 2 _ rfl; (with_reducible repeat (first | refine Xc ?_ _ | refine Xe ?_ | refine Xb ?_ _)); refine Xj (cs := #[.int .i64 ((Xa l0 0).f0), .slice none 0 0, .slice none 0 0, .slice none 0 0]) ?_ 1 _ rfl; (with_reducible repeat (first | refine Xc ?_ _ | refine Xe ?_ | refine Xb ?_ _)); refine Xj (cs := #[.int .i64 0, .slice none 0 0, .slice none 0 0, .slice none 0 0]) ?_ 0 _ rfl; (with_reducible repeat (first | refine Xc ?_ _ | refine Xe ?_ | refine Xb ?_ _)); exact BK394.out) : p := h
theorem J15 {p : Prop} (h : p := by repeat (first | (with_reducible first | exact HB.out | apply Xah | apply Xy | apply X8 | refine X2 ?_ GE242.out) | exact HB.out)) : p := h
theorem J16 {p : Prop} (h : p := by (with_reducible repeat (first | refine Xc ?_ _ | refine Xe ?_ | refine Xb ?_ _)); refine Xab ?_ NB288_295.out _; (with_reducible repeat (first | refine Xc ?_ _ | refine Xe ?_ | refine Xb ?_ _)); refine Xab ?_ NB288_295.out _; (with_reducible repeat (first | refine Xc ?_ _ | refine Xe ?_ | refine Xb ?_ _)); refine Xab ?_ NB288_295.out _; (with_reducible repeat (first | refine Xc ?_ _ | refine Xe ?_ | refine Xb ?_ _)); refine Xab ?_ NB288_295.out _; (with_reducible repeat (first | refine Xc ?_ _ | refine Xe ?_ | refine Xb ?_ _)); exact BK288.out) : p := h
theorem J17 {p : Prop} (h : p := by repeat (first | (with_reducible first | exact HB.out | apply Xah | apply Xy | apply X8 | refine X2 ?_ GE236.out) | exact HB.out)) : p := h
theorem J18 {p : Prop} (h : p := by (with_reducible repeat (first | refine Xc ?_ _ | refine Xe ?_ | refine Xb ?_ _)); refine Xj (cs := #[.int .i64 0, .int .i64 0]) ?_ 1 _ rfl; (with_reducible repeat (first | refine Xc ?_ _ | refine Xe ?_ | refine Xb ?_ _)); refine Xj (cs := #[.int .i64 0, .int .i64 0]) ?_ 0 _ rfl; (with_reducible repeat (first | refine Xc ?_ _ | refine Xe ?_ | refine Xb ?_ _)); exact BK106.out) : p := h
theorem J19 {p : Prop} (h : p := by (with_reducible repeat (first | refine Xc ?_ _ | refine Xe ?_ | refine Xb ?_ _)); refine Xj (cs := #[.int .i64 0, .int .i64 0]) ?_ 1 _ rfl; (with_reducible repeat (first | refine Xc ?_ _ | refine Xe ?_ | refine Xb ?_ _)); refine Xj (cs := #[.int .i64 0, .int .i64 0]) ?_ 0 _ rfl; (with_reducible repeat (first | refine Xc ?_ _ | refine Xe ?_ | refine Xb ?_ _)); exact BK214.out) : p := h
theorem J20 {p : Prop} (h : p := by repeat (first | (with_reducible first | exact HB.out | apply Xah | apply Xy | apply X8 | refine X2 ?_ GE105.out | refine X2 ?_ GE106.out) | exact HB.out)) : p := h
theorem J21 {p : Prop} (h : p := by repeat (first | (with_reducible first | exact HB.out | apply Xah | apply Xy | apply X8 | refine X2 ?_ GE213.out | refine X2 ?_ GE214.out) | exact HB.out)) : p := h
theorem J22 {p : Prop} (h : p := by repeat (first | (with_reducible first | exact HB.out | apply Xah | apply Xy | apply X8 | refine X2 ?_ GE128.out) | exact HB.out)) : p := h
theorem J23 {p : Prop} (h : p := by repeat (first | (with_reducible first | exact HB.out | apply Xah | apply Xy | apply X8 | refine X2 ?_ GE503.out | refine X2 ?_ GE504.out) | exact HB.out)) : p := h
theorem J24 {p : Prop} (h : p := by repeat (first | (with_reducible first | exact HB.out | apply Xah | apply Xy | apply X8 | refine X2 ?_ GE636.out | refine X2 ?_ GE637.out) | exact HB.out)) : p := h
theorem J25 {p : Prop} (h : p := by (with_reducible repeat (first | refine Xc ?_ _ | refine Xe ?_ | refine Xb ?_ _)); exact BK242.out) : p := h
theorem J26 {p : Prop} (h : p := by (with_reducible repeat (first | refine Xc ?_ _ | refine Xe ?_ | refine Xb ?_ _)); refine Xj (cs := #[.int .i64 ((Xa (Xa3 l1 x16_1) 0).f0), .slice A374_1 ((Xa (Xa3 l1 x16_1) 0).f1).length c374_1, .slice A374_2 ((Xa (Xa3 l1 x16_1) 0).f2).length c374_2, .slice none 0 0]) ?_ 3 _ rfl; (with_reducible repeat (first | refine Xc ?_ _ | refine Xe ?_ | refine Xb ?_ _)); refine Xj (cs := #[.int .i64 ((Xa (Xa3 l1 x16_1) 0).f0), .slice A374_1 ((Xa (Xa3 l1 x16_1) 0).f1).length c374_1, .slice none 0 0, .slice none 0 0]) ?_ 2 _ rfl; (with_reducible repeat (first | refine Xc ?_ _ | refine Xe ?_ | refine Xb ?_ _)); refine Xj (cs := #[.int .i64 ((Xa (Xa3 l1 x16_1) 0).f0), .slice none 0 0, .slice none 0 0, .slice none 0 0]) ?_ 1 _ rfl; (with_reducible repeat (first | refine Xc ?_ _ | refine Xe ?_ | refine Xb ?_ _)); refine Xj (cs := #[.int .i64 0, .slice none 0 0, .slice none 0 0, .slice none 0 0]) ?_ 0 _ rfl; (with_reducible repeat (first | refine Xc ?_ _ | refine Xe ?_ | refine Xb ?_ _)); exact BK375.out) : p := h
theorem J27 {p : Prop} (h : p := by repeat (first | (with_reducible first | exact HB.out | apply Xah | apply Xy | apply X8 | refine X2 ?_ GE270.out) | exact HB.out)) : p := h
theorem J28 {p : Prop} (h : p := by (with_reducible repeat (first | refine Xc ?_ _ | refine Xe ?_ | refine Xb ?_ _)); refine Xj (cs := #[.int .i64 ((Xa l0 0).f0), .slice A173_1 ((Xa l0 0).f1).length c173_1, .slice A173_2 ((Xa l0 0).f2).length c173_2, .slice none 0 0]) ?_ 3 _ rfl; (with_reducible repeat (first | refine Xc ?_ _ | refine Xe ?_ | refine Xb ?_ _)); refine Xj (cs := #[.int .i64 ((Xa l0 0).f0), .slice A173_1 ((Xa l0 0).f1).length c173_1, .slice none 0 0, .slice none 0 0]) ?_ 2 _ rfl; (with_reducible repeat (first | refine Xc ?_ _ | refine Xe ?_ | refine Xb ?_ _)); refine Xj (cs := #[.int .i64 ((Xa l0 0).f0), .slice none 0 0, .slice none 0 0, .slice none 0 0]) ?_ 1 _ rfl; (with_reducible repeat (first | refine Xc ?_ _ | refine Xe ?_ | refine Xb ?_ _)); refine Xj (cs := #[.int .i64 0, .slice none 0 0, .slice none 0 0, .slice none 0 0]) ?_ 0 _ rfl; (with_reducible repeat (first | refine Xc ?_ _ | refine Xe ?_ | refine Xb ?_ _)); exact BK174.out) : p := h
theorem J29 {p : Prop} (h : p := by rw [hg]; exact Nat.ne_of_lt (Xbe (g := gb394) (o := .cells #[.int .i64 ((Xa l0 0).f0), .slice A393_1 ((Xa l0 0).f1).length c393_1, .slice A393_2 ((Xa l0 0).f2).length c393_2, .slice A393_3 ((Xa l0 0).f3).length c393_3] 32 (0, 0)) (zk BK394.out))) : p := h
theorem J30 {p : Prop} (h : p := by rw [hg]; exact Nat.ne_of_gt (Xbe (g := gb394) (o := .cells #[.int .i64 ((Xa l0 0).f0), .slice A393_1 ((Xa l0 0).f1).length c393_1, .slice A393_2 ((Xa l0 0).f2).length c393_2, .slice A393_3 ((Xa l0 0).f3).length c393_3] 32 (0, 0)) (zk BK394.out))) : p := h
theorem J31 {p : Prop} (h : p := by first | omega | exact Nat.le_refl _) : p := h
theorem J32 {p : Prop} (h : p := by (with_reducible repeat (first | refine Xc ?_ _ | refine Xe ?_ | refine Xb ?_ _)); refine Xj (cs := #[.int .i64 0, .int .i64 0]) ?_ 1 _ rfl; (with_reducible repeat (first | refine Xc ?_ _ | refine Xe ?_ | refine Xb ?_ _)); refine Xj (cs := #[.int .i64 0, .int .i64 0]) ?_ 0 _ rfl; (with_reducible repeat (first | refine Xc ?_ _ | refine Xe ?_ | refine Xb ?_ _)); refine Xab ?_ NB475_477.out _; (with_reducible repeat (first | refine Xc ?_ _ | refine Xe ?_ | refine Xb ?_ _)); refine Xab ?_ NB475_477.out _; (with_reducible repeat (first | refine Xc ?_ _ | refine Xe ?_ | refine Xb ?_ _)); refine Xab ?_ NB475_477.out _; (with_reducible repeat (first | refine Xc ?_ _ | refine Xe ?_ | refine Xb ?_ _)); refine Xab ?_ NB475_477.out _; (with_reducible repeat (first | refine Xc ?_ _ | refine Xe ?_ | refine Xb ?_ _)); exact BK475.out) : p := h
theorem J33 {p : Prop} (h : p := by rw [hg]; exact Nat.ne_of_lt (Xbe (g := gb636) (o := .cells #[.int .i64 a0_0, .slice A0_1 l0_1.length c0_1, .slice A0_2 l0_2.length c0_2, .slice A0_3 l0_3.length c0_3] 32 (0, 0)) (zk BK636.out))) : p := h
theorem J34 {p : Prop} (h : p := by rw [hg]; exact Nat.ne_of_gt (Xbe (g := gb636) (o := .cells #[.int .i64 a0_0, .slice A0_1 l0_1.length c0_1, .slice A0_2 l0_2.length c0_2, .slice A0_3 l0_3.length c0_3] 32 (0, 0)) (zk BK636.out))) : p := h
theorem J35 {p : Prop} (h : p := by omega) : p := h
theorem J36 {p : Prop} (h : p := by repeat (first | (with_reducible first | exact HB.out | apply Xah | apply Xy | apply X8 | refine X2 ?_ GE346.out | refine X2 ?_ GE350.out | refine X2 ?_ GE375.out) | exact HB.out)) : p := h
theorem J37 {p : Prop} (h : p := by (with_reducible repeat (first | refine Xc ?_ _ | refine Xe ?_ | refine Xb ?_ _)); refine Xj (cs := #[.int .i64 t511, .int .i64 0]) ?_ 1 _ rfl; (with_reducible repeat (first | refine Xc ?_ _ | refine Xe ?_ | refine Xb ?_ _)); refine Xj (cs := #[.int .i64 0, .int .i64 0]) ?_ 0 _ rfl; (with_reducible repeat (first | refine Xc ?_ _ | refine Xe ?_ | refine Xb ?_ _)); exact BK514.out) : p := h
theorem J38 {p : Prop} (h : p := by (with_reducible repeat (first | apply Kd.R_alloc | apply Kd.R_drewN | apply Kd.R_drew)); exact HO_5.out) : p := h
theorem J39 {p : Prop} (h : p := by repeat (first | (with_reducible first | exact HB.out | apply Xah | apply Xy | apply X8 | refine X2 ?_ GE475.out | refine X2 ?_ GE477.out) | exact HB.out)) : p := h
theorem J40 {p : Prop} (h : p := by (with_reducible repeat (first | refine Xc ?_ _ | refine Xe ?_ | refine Xb ?_ _)); refine Xab ?_ NB130_139.out _; (with_reducible repeat (first | refine Xc ?_ _ | refine Xe ?_ | refine Xb ?_ _)); exact BK130.out) : p := h
theorem J41 {p : Prop} (h : p := by have := HJ2.out; have := HJ10.out; have := HJ13.out; have := HJ16.out; have := HK5.out; omega) : p := h
theorem J42 {p : Prop} (h : p := by (with_reducible repeat (first | refine Xc ?_ _ | refine Xe ?_ | refine Xb ?_ _)); exact BK130.out) : p := h
theorem J43 {p : Prop} (h : p := by (with_reducible repeat (first | refine Xc ?_ _ | refine Xe ?_ | refine Xb ?_ _)); refine Xab ?_ NB394_417.out _; (with_reducible repeat (first | refine Xc ?_ _ | refine Xe ?_ | refine Xb ?_ _)); refine Xab ?_ NB394_417.out _; (with_reducible repeat (first | refine Xc ?_ _ | refine Xe ?_ | refine Xb ?_ _)); refine Xab ?_ NB394_417.out _; (with_reducible repeat (first | refine Xc ?_ _ | refine Xe ?_ | refine Xb ?_ _)); refine Xab ?_ NB394_417.out _; (with_reducible repeat (first | refine Xc ?_ _ | refine Xe ?_ | refine Xb ?_ _)); exact BK394.out) : p := h
theorem J44 {p : Prop} (h : p := by (with_reducible repeat (first | refine Xc ?_ _ | refine Xe ?_ | refine Xb ?_ _)); refine Xab ?_ NB475_477.out _; (with_reducible repeat (first | refine Xc ?_ _ | refine Xe ?_ | refine Xb ?_ _)); refine Xab ?_ NB475_477.out _; (with_reducible repeat (first | refine Xc ?_ _ | refine Xe ?_ | refine Xb ?_ _)); refine Xab ?_ NB475_477.out _; (with_reducible repeat (first | refine Xc ?_ _ | refine Xe ?_ | refine Xb ?_ _)); refine Xab ?_ NB475_477.out _; (with_reducible repeat (first | refine Xc ?_ _ | refine Xe ?_ | refine Xb ?_ _)); exact BK475.out) : p := h
theorem J45 {p : Prop} (h : p := by (with_reducible repeat (first | refine Xc ?_ _ | refine Xe ?_ | refine Xb ?_ _)); refine Xab ?_ NB346_375.out _; (with_reducible repeat (first | refine Xc ?_ _ | refine Xe ?_ | refine Xb ?_ _)); refine Xab ?_ NB346_375.out _; (with_reducible repeat (first | refine Xc ?_ _ | refine Xe ?_ | refine Xb ?_ _)); refine Xab ?_ NB346_375.out _; (with_reducible repeat (first | refine Xc ?_ _ | refine Xe ?_ | refine Xb ?_ _)); refine Xab ?_ NB346_375.out _; (with_reducible repeat (first | refine Xc ?_ _ | refine Xe ?_ | refine Xb ?_ _)); exact BK346.out) : p := h
theorem J46 {p : Prop} (h : p := by (with_reducible repeat (first | refine Xc ?_ _ | refine Xe ?_ | refine Xb ?_ _)); refine Xab ?_ NB350_375.out _; (with_reducible repeat (first | refine Xc ?_ _ | refine Xe ?_ | refine Xb ?_ _)); refine Xab ?_ NB350_375.out _; (with_reducible repeat (first | refine Xc ?_ _ | refine Xe ?_ | refine Xb ?_ _)); refine Xab ?_ NB350_375.out _; (with_reducible repeat (first | refine Xc ?_ _ | refine Xe ?_ | refine Xb ?_ _)); refine Xab ?_ NB350_375.out _; (with_reducible repeat (first | refine Xc ?_ _ | refine Xe ?_ | refine Xb ?_ _)); exact BK350.out) : p := h
theorem J47 {p : Prop} (h : p := by have := World.block_lt_of_cell? _ _ hx466_0; first | rwa [Xc0] at this | exact this) : p := h
theorem J48 {p : Prop} (h : p := by (with_reducible repeat (first | apply Kd.R_alloc | apply Kd.R_drewN | apply Kd.R_drew)); exact Kd.R_mono (Kd.R_far (p := ⟨gb375, 3, none⟩) (Kd.R_far (p := ⟨gb375, 2, none⟩) (Kd.R_far (p := ⟨gb375, 1, none⟩) (Kd.R_far (p := ⟨gb375, 0, none⟩) (Kd.R_types HO_351001.out BK375.out J11) (fun _ hk => hk.2) (.int .i64 ((Xa (Xa3 l1 x16_1) 0).f0))) (fun _ hk => hk.2) (.slice A374_1 ((Xa (Xa3 l1 x16_1) 0).f1).length c374_1)) (fun _ hk => hk.2) (.slice A374_2 ((Xa (Xa3 l1 x16_1) 0).f2).length c374_2)) (fun _ hk => hk.2) (.slice A374_3 ((Xa (Xa3 l1 x16_1) 0).f3).length c374_3)) (fun _ hk => hk.1)) : p := h
theorem J49 {p : Prop} (h : p := by (with_reducible repeat (first | apply Kd.R_alloc | apply Kd.R_drewN | apply Kd.R_drew)); exact Kd.R_mono (Kd.R_far (p := ⟨gb375, 3, none⟩) (Kd.R_far (p := ⟨gb375, 2, none⟩) (Kd.R_far (p := ⟨gb375, 1, none⟩) (Kd.R_far (p := ⟨gb375, 0, none⟩) (Kd.R_types HO_351002.out BK375.out J11) (fun _ hk => hk.2) (.int .i64 ((Xa (Xa3 l1 x16_1) 0).f0))) (fun _ hk => hk.2) (.slice A374_1 ((Xa (Xa3 l1 x16_1) 0).f1).length c374_1)) (fun _ hk => hk.2) (.slice A374_2 ((Xa (Xa3 l1 x16_1) 0).f2).length c374_2)) (fun _ hk => hk.2) (.slice A374_3 ((Xa (Xa3 l1 x16_1) 0).f3).length c374_3)) (fun _ hk => hk.1)) : p := h
theorem J50 {p : Prop} (h : p := by (with_reducible repeat (first | apply Kd.R_alloc | apply Kd.R_drewN | apply Kd.R_drew)); exact Kd.R_mono (Kd.R_far (p := ⟨gb375, 3, none⟩) (Kd.R_far (p := ⟨gb375, 2, none⟩) (Kd.R_far (p := ⟨gb375, 1, none⟩) (Kd.R_far (p := ⟨gb375, 0, none⟩) (Kd.R_types HO_7.out BK375.out J11) (fun _ hk => hk.2) (.int .i64 ((Xa (Xa3 l1 x16_1) 0).f0))) (fun _ hk => hk.2) (.slice A374_1 ((Xa (Xa3 l1 x16_1) 0).f1).length c374_1)) (fun _ hk => hk.2) (.slice A374_2 ((Xa (Xa3 l1 x16_1) 0).f2).length c374_2)) (fun _ hk => hk.2) (.slice A374_3 ((Xa (Xa3 l1 x16_1) 0).f3).length c374_3)) (fun _ hk => trivial)) : p := h
theorem J51 {p : Prop} (h : p := by (with_reducible repeat (first | apply Kd.V_alloc | apply Kd.V_drewN | apply Kd.V_drew)); exact (Kd.V_mono (Kd.V_far (p := ⟨gb394, 3, none⟩) (Kd.V_far (p := ⟨gb394, 2, none⟩) (Kd.V_far (p := ⟨gb394, 1, none⟩) (Kd.V_far (p := ⟨gb394, 0, none⟩) (Kd.V_mono HL393_1.out (fun k_ hk => (⟨hk, hk.2⟩ : _ ∧ k_ ≠ gb394))) (fun _ hk => hk.2) (.int .i64 ((Xa l0 0).f0))) (fun _ hk => hk.2) (.slice A393_1 ((Xa l0 0).f1).length c393_1)) (fun _ hk => hk.2) (.slice A393_2 ((Xa l0 0).f2).length c393_2)) (fun _ hk => hk.2) (.slice A393_3 ((Xa l0 0).f3).length c393_3)) (fun _ h_ => h_.1))) : p := h
theorem J52 {p : Prop} (h : p := by (with_reducible repeat (first | apply Kd.V_alloc | apply Kd.V_drewN | apply Kd.V_drew)); exact (Kd.V_mono (Kd.V_far (p := ⟨gb394, 3, none⟩) (Kd.V_far (p := ⟨gb394, 2, none⟩) (Kd.V_far (p := ⟨gb394, 1, none⟩) (Kd.V_far (p := ⟨gb394, 0, none⟩) (Kd.V_mono HL393_2.out (fun k_ hk => (⟨hk, hk.2⟩ : _ ∧ k_ ≠ gb394))) (fun _ hk => hk.2) (.int .i64 ((Xa l0 0).f0))) (fun _ hk => hk.2) (.slice A393_1 ((Xa l0 0).f1).length c393_1)) (fun _ hk => hk.2) (.slice A393_2 ((Xa l0 0).f2).length c393_2)) (fun _ hk => hk.2) (.slice A393_3 ((Xa l0 0).f3).length c393_3)) (fun _ h_ => h_.1))) : p := h
theorem J53 {p : Prop} (h : p := by (with_reducible repeat (first | apply Kd.V_alloc | apply Kd.V_drewN | apply Kd.V_drew)); exact (Kd.V_mono (Kd.V_far (p := ⟨gb394, 3, none⟩) (Kd.V_far (p := ⟨gb394, 2, none⟩) (Kd.V_far (p := ⟨gb394, 1, none⟩) (Kd.V_far (p := ⟨gb394, 0, none⟩) (Kd.V_mono HL393_3.out (fun k_ hk => (⟨hk, hk.2⟩ : _ ∧ k_ ≠ gb394))) (fun _ hk => hk.2) (.int .i64 ((Xa l0 0).f0))) (fun _ hk => hk.2) (.slice A393_1 ((Xa l0 0).f1).length c393_1)) (fun _ hk => hk.2) (.slice A393_2 ((Xa l0 0).f2).length c393_2)) (fun _ hk => hk.2) (.slice A393_3 ((Xa l0 0).f3).length c393_3)) (fun _ h_ => h_.1))) : p := h
theorem J54 {p : Prop} (h : p := by (with_reducible repeat (first | apply Kd.V_alloc | apply Kd.V_drewN | apply Kd.V_drew)); exact (Kd.V_mono (Kd.V_far (p := ⟨gb394, 3, none⟩) (Kd.V_far (p := ⟨gb394, 2, none⟩) (Kd.V_far (p := ⟨gb394, 1, none⟩) (Kd.V_far (p := ⟨gb394, 0, none⟩) (Kd.V_mono HO0.out (fun k_ hk => (⟨hk, hk.2⟩ : _ ∧ k_ ≠ gb394))) (fun _ hk => hk.2) (.int .i64 ((Xa l0 0).f0))) (fun _ hk => hk.2) (.slice A393_1 ((Xa l0 0).f1).length c393_1)) (fun _ hk => hk.2) (.slice A393_2 ((Xa l0 0).f2).length c393_2)) (fun _ hk => hk.2) (.slice A393_3 ((Xa l0 0).f3).length c393_3)) (fun _ h_ => h_.1))) : p := h
theorem J55 {p : Prop} (h : p := by repeat (first | (with_reducible first | exact HB.out | apply Xah | apply Xy | apply X8 | refine X2 ?_ GE288.out | refine X2 ?_ GE295.out) | exact HB.out)) : p := h
theorem J56 {p : Prop} (h : p := by repeat (first | (with_reducible first | exact HB.out | apply Xah | apply Xy | apply X8 | refine X2 ?_ GE346.out | refine X2 ?_ GE350.out) | exact HB.out)) : p := h
theorem J57 {p : Prop} (h : p := by rw [hg]; exact Nat.ne_of_lt (Xbe (g := gb459) (o := .cells #[.int .i64 a0_0, .slice A0_1 l0_1.length c0_1, .slice A0_2 l0_2.length c0_2, .slice A0_3 l0_3.length c0_3] 32 (0, 0)) (zk BK459.out))) : p := h
theorem J58 {p : Prop} (h : p := by rw [hg]; exact Nat.ne_of_gt (Xbe (g := gb459) (o := .cells #[.int .i64 a0_0, .slice A0_1 l0_1.length c0_1, .slice A0_2 l0_2.length c0_2, .slice A0_3 l0_3.length c0_3] 32 (0, 0)) (zk BK459.out))) : p := h
theorem J59 {p : Prop} (h : p := by repeat (first | (with_reducible first | exact HB.out | apply Xah | apply Xy | apply X8 | refine X2 ?_ GE459.out | refine X2 ?_ GE460.out) | exact HB.out)) : p := h
theorem J60 {p : Prop} (h : p := by (with_reducible repeat (first | refine Xc ?_ _ | refine Xe ?_ | refine Xb ?_ _)); exact BK236.out) : p := h
theorem J61 {p : Prop} (h : p := by rw [hg]; exact Nat.ne_of_lt (Xbe (g := gb174) (o := .cells #[.int .i64 ((Xa l0 0).f0), .slice A173_1 ((Xa l0 0).f1).length c173_1, .slice A173_2 ((Xa l0 0).f2).length c173_2, .slice A173_3 ((Xa l0 0).f3).length c173_3] 32 (0, 0)) (zk BK174.out))) : p := h
theorem J62 {p : Prop} (h : p := by rw [hg]; exact Nat.ne_of_gt (Xbe (g := gb174) (o := .cells #[.int .i64 ((Xa l0 0).f0), .slice A173_1 ((Xa l0 0).f1).length c173_1, .slice A173_2 ((Xa l0 0).f2).length c173_2, .slice A173_3 ((Xa l0 0).f3).length c173_3] 32 (0, 0)) (zk BK174.out))) : p := h
theorem J63 {p : Prop} (h : p := by (with_reducible repeat (first | apply Kd.R_alloc | apply Kd.R_drewN | apply Kd.R_drew)); exact (Kd.R_mono (Kd.R_far (p := ⟨gb417, 3, none⟩) (Kd.R_far (p := ⟨gb417, 2, none⟩) (Kd.R_far (p := ⟨gb417, 1, none⟩) (Kd.R_far (p := ⟨gb417, 0, none⟩) (Kd.R_types HO409.out BK417.out J11) (fun _ hk => hk.2) (.int .i64 t406)) (fun _ hk => hk.2) (.slice Ao46 t407.length co46)) (fun _ hk => hk.2) (.slice Ao47 t410.length co47)) (fun _ hk => hk.2) (.slice Ao48 t413.length co48)) (fun _ h_ => h_.1))) : p := h
theorem J64 {p : Prop} (h : p := by (with_reducible repeat (first | apply Kd.R_alloc | apply Kd.R_drewN | apply Kd.R_drew)); exact (Kd.R_mono (Kd.R_far (p := ⟨gb417, 3, none⟩) (Kd.R_far (p := ⟨gb417, 2, none⟩) (Kd.R_far (p := ⟨gb417, 1, none⟩) (Kd.R_far (p := ⟨gb417, 0, none⟩) (Kd.R_types HO412.out BK417.out J11) (fun _ hk => hk.2) (.int .i64 t406)) (fun _ hk => hk.2) (.slice Ao46 t407.length co46)) (fun _ hk => hk.2) (.slice Ao47 t410.length co47)) (fun _ hk => hk.2) (.slice Ao48 t413.length co48)) (fun _ h_ => h_.1))) : p := h
theorem J65 {p : Prop} (h : p := by repeat (first | (with_reducible first | exact HB.out | apply Xah | apply Xy | apply X8 | refine X2 ?_ GE288.out) | exact HB.out)) : p := h
theorem J66 {p : Prop} (h : p := by repeat (first | (with_reducible first | exact HB.out | apply Xah | apply Xy | apply X8 | refine X2 ?_ GE339.out) | exact HB.out)) : p := h
theorem J67 {p : Prop} (h : p := by repeat (first | (with_reducible first | exact HB.out | apply Xah | apply Xy | apply X8 | refine X2 ?_ GE394.out) | exact HB.out)) : p := h
theorem J68 {p : Prop} (h : p := by repeat (first | (with_reducible first | exact HB.out | apply Xah | apply Xy | apply X8 | refine X2 ?_ GE514.out) | exact HB.out)) : p := h
theorem J69 {p : Prop} (h : p := by first | exact (Kd.V_reads' HL393_1.out).2.2 | (repeat (first | (with_reducible exact HR393_1.out) | (with_reducible refine Kd.C_alloc ?_ _) | (with_reducible refine Kd.C_drewN ?_ _) | (with_reducible refine Kd.C_drew ?_) | exact HR393_1.out))) : p := h
theorem J70 {p : Prop} (h : p := by first | exact (Kd.V_reads' HL393_2.out).2.2 | (repeat (first | (with_reducible exact HR393_2.out) | (with_reducible refine Kd.C_alloc ?_ _) | (with_reducible refine Kd.C_drewN ?_ _) | (with_reducible refine Kd.C_drew ?_) | exact HR393_2.out))) : p := h
theorem J71 {p : Prop} (h : p := by first | exact (Kd.V_reads' HL393_3.out).2.2 | (repeat (first | (with_reducible exact HR393_3.out) | (with_reducible refine Kd.C_alloc ?_ _) | (with_reducible refine Kd.C_drewN ?_ _) | (with_reducible refine Kd.C_drew ?_) | exact HR393_3.out))) : p := h
theorem J72 {p : Prop} (h : p := by simp only [putAll, Act.put, List.setIfInBounds_toArray, List.set_cons_zero, List.set_cons_succ]) : p := h
theorem J73 {p : Prop} (h : p := by (with_reducible repeat (first | apply Kd.R_alloc | apply Kd.R_drewN | apply Kd.R_drew)); exact (Kd.R_mono (Kd.R_far (p := ⟨gb295, 3, none⟩) (Kd.R_far (p := ⟨gb295, 2, none⟩) (Kd.R_far (p := ⟨gb295, 1, none⟩) (Kd.R_far (p := ⟨gb295, 0, none⟩) (Kd.R_types HO294.out BK295.out J11) (fun _ hk => hk.2) (.int .i64 2)) (fun _ hk => hk.2) (.slice Ao37 t292.length co37)) (fun _ hk => hk.2) (.slice none 0 0)) (fun _ hk => hk.2) (.slice none 0 0)) (fun _ h_ => h_.1))) : p := h
theorem J74 {p : Prop} (h : p := by (with_reducible repeat (first | apply Kd.R_alloc | apply Kd.R_drewN | apply Kd.R_drew)); exact (Kd.R_mono (Kd.R_far (p := ⟨gb295, 3, none⟩) (Kd.R_far (p := ⟨gb295, 2, none⟩) (Kd.R_far (p := ⟨gb295, 1, none⟩) (Kd.R_far (p := ⟨gb295, 0, none⟩) (Kd.R_types HO294.out BK295.out J11) (fun _ hk => hk.2) (.int .i64 2)) (fun _ hk => hk.2) (.slice Ao19 t292.length co19)) (fun _ hk => hk.2) (.slice none 0 0)) (fun _ hk => hk.2) (.slice none 0 0)) (fun _ h_ => h_.1))) : p := h
theorem J75 {p : Prop} (h : p := by (with_reducible repeat (first | apply Kd.R_alloc | apply Kd.R_drewN | apply Kd.R_drew)); exact (Kd.R_mono (Kd.R_far (p := ⟨gb295, 3, none⟩) (Kd.R_far (p := ⟨gb295, 2, none⟩) (Kd.R_far (p := ⟨gb295, 1, none⟩) (Kd.R_far (p := ⟨gb295, 0, none⟩) (Kd.R_types HO294.out BK295.out J11) (fun _ hk => hk.2) (.int .i64 2)) (fun _ hk => hk.2) (.slice Ao28 t292.length co28)) (fun _ hk => hk.2) (.slice none 0 0)) (fun _ hk => hk.2) (.slice none 0 0)) (fun _ h_ => h_.1))) : p := h
theorem J76 {p : Prop} (h : p := by rw [hg]; exact (Xf (zs1 GE636.out))) : p := h
theorem J77 {p : Prop} (h : p := by (with_reducible repeat (first | refine Xc ?_ _ | refine Xe ?_ | refine Xb ?_ _)); exact BK128.out) : p := h
theorem J78 {p : Prop} (h : p := by (with_reducible repeat (first | refine Xc ?_ _ | refine Xe ?_ | refine Xb ?_ _)); exact BK139.out) : p := h
theorem J79 {p : Prop} (h : p := by (with_reducible repeat (first | refine Xc ?_ _ | refine Xe ?_ | refine Xb ?_ _)); exact BK270.out) : p := h
theorem J80 {p : Prop} (h : p := by rw [hg]; exact Nat.ne_of_lt (Xbe (g := gb475) (o := .cells #[.int .i64 0, .int .i64 0] 40 (0, 0)) (zk BK475.out))) : p := h
theorem J81 {p : Prop} (h : p := by rw [hg]; exact Nat.ne_of_gt (Xbe (g := gb475) (o := .cells #[.int .i64 0, .int .i64 0] 40 (0, 0)) (zk BK475.out))) : p := h
theorem J82 {p : Prop} (h : p := by rw [hg]; exact Nat.ne_of_lt (Xbe (g := gb288) (o := .cells #[.int .i64 0, .slice none 0 0, .slice none 0 0, .slice none 0 0] 32 (0, 0)) (zk BK288.out))) : p := h
theorem J83 {p : Prop} (h : p := by rw [hg]; exact Nat.ne_of_gt (Xbe (g := gb288) (o := .cells #[.int .i64 0, .slice none 0 0, .slice none 0 0, .slice none 0 0] 32 (0, 0)) (zk BK288.out))) : p := h
theorem J84 {p : Prop} (h : p := by (with_reducible repeat (first | refine Xc ?_ _ | refine Xe ?_ | refine Xb ?_ _)); refine Xj (cs := #[.int .i64 x106000_1, .int .i64 0]) ?_ 1 _ rfl; (with_reducible repeat (first | refine Xc ?_ _ | refine Xe ?_ | refine Xb ?_ _)); refine Xj (cs := #[.int .i64 0, .int .i64 0]) ?_ 0 _ rfl; (with_reducible repeat (first | refine Xc ?_ _ | refine Xe ?_ | refine Xb ?_ _)); exact BK106.out) : p := h
theorem J85 {p : Prop} (h : p := by (with_reducible repeat (first | refine Xc ?_ _ | refine Xe ?_ | refine Xb ?_ _)); refine Xj (cs := #[.int .i64 x214000_1, .int .i64 0]) ?_ 1 _ rfl; (with_reducible repeat (first | refine Xc ?_ _ | refine Xe ?_ | refine Xb ?_ _)); refine Xj (cs := #[.int .i64 0, .int .i64 0]) ?_ 0 _ rfl; (with_reducible repeat (first | refine Xc ?_ _ | refine Xe ?_ | refine Xb ?_ _)); exact BK214.out) : p := h
theorem J86 {p : Prop} (h : p := by have := HK1.out; omega) : p := h
theorem J87 {p : Prop} (h : p := by have := HK1.out; first | omega | exact Nat.le_refl _) : p := h
theorem J88 {p : Prop} (h : p := by simp) : p := h
theorem J89 {p : Prop} (h : p := by (with_reducible repeat (first | apply Kd.R_alloc | apply Kd.R_drewN | apply Kd.R_drew)); exact (Kd.R_mono (Kd.R_far (p := ⟨gb273, 1, none⟩) (Kd.R_far (p := ⟨gb273, 0, none⟩) (Kd.R_types HO_4.out BK273.out J11) (fun _ hk => hk.2) (.int .i64 ((Xv l0 x11_1).f0))) (fun _ hk => hk.2) (.int .i64 ((Xv l0 x11_1).f1))) (fun _ h_ => h_.1))) : p := h
theorem J90 {p : Prop} (h : p := by rw [hg]; exact (Xf (zs1 GE475.out))) : p := h
theorem J91 {p : Prop} (h : p := by (with_reducible repeat (first | refine Xc ?_ _ | refine Xe ?_ | refine Xb ?_ _)); refine Xj (cs := #[.int .i64 x140000_3, .slice Ao14 y136.length co14, .slice none 0 0, .slice none 0 0]) ?_ 0 _ rfl; (with_reducible repeat (first | refine Xc ?_ _ | refine Xe ?_ | refine Xb ?_ _)); exact BK139.out) : p := h
theorem J92 {p : Prop} (h : p := by repeat (first | (with_reducible first | exact HB.out | apply Xah | apply Xy | apply X8 | refine X2 ?_ GE130.out) | exact HB.out)) : p := h
theorem J93 {p : Prop} (h : p := by repeat (first | (with_reducible first | exact HB.out | apply Xah | apply Xy | apply X8 | refine X2 ?_ GE160.out) | exact HB.out)) : p := h
theorem J94 {p : Prop} (h : p := by repeat (first | (with_reducible first | exact HB.out | apply Xah | apply Xy | apply X8 | refine X2 ?_ GE521.out) | exact HB.out)) : p := h
theorem J95 {p : Prop} (h : p := by (with_reducible repeat (first | apply Kd.R_alloc | apply Kd.R_drewN | apply Kd.R_drew)); exact HO_140001.out) : p := h
theorem J96 {p : Prop} (h : p := by rw [hg]; exact (Xf (zs1 GE394.out))) : p := h
theorem J97 {p : Prop} (h : p := by (with_reducible repeat (first | apply Kd.R_alloc | apply Kd.R_drewN | apply Kd.R_drew)); exact Kd.R_mono HO180.out (fun _ hk => ⟨hk.1.1, hk.2⟩)) : p := h
theorem J98 {p : Prop} (h : p := by (with_reducible repeat (first | apply Kd.R_alloc | apply Kd.R_drewN | apply Kd.R_drew)); exact Kd.R_mono HO190.out (fun _ hk => ⟨hk.1.1, hk.2⟩)) : p := h
theorem J99 {p : Prop} (h : p := by first | simpa using c3 | (simp at c3 ⊢; omega)) : p := h
theorem J100 {p : Prop} (h : p := by first | exact Kd.S_nil _ _ _ _ _ | exact Kd.N_nil _ _ _ _ _ | exact Kd.V_nil _ _ _ _ _ | exact Kd.Q_nil _ _ _ _ _ | exact Kd.R_nil _ _ _ _ _) : p := h
theorem J101 {p : Prop} (h : p := by have := World.block_lt_of_cell? _ _ hx478_0; first | rwa [Xc0] at this | exact this) : p := h
theorem J102 {p : Prop} (h : p := by have := World.block_lt_of_cell? _ _ hx479_0; first | rwa [Xc0] at this | exact this) : p := h
theorem J103 {p : Prop} (h : p := by have := World.block_lt_of_cell? _ _ hx482_0; first | rwa [Xc0] at this | exact this) : p := h
theorem J104 {p : Prop} (h : p := by (with_reducible repeat (first | apply Kd.R_alloc | apply Kd.R_drewN | apply Kd.R_drew)); exact Kd.R_mono HO445.out (fun _ hk => hk.1)) : p := h
theorem J105 {p : Prop} (h : p := by rw [hg]; exact Nat.ne_of_lt (Xbe (g := gb465) (o := .cells #[.int .i64 ((Xa l0 x17_1).f0), .slice A464_1 ((Xa l0 x17_1).f1).length c464_1, .slice A464_2 ((Xa l0 x17_1).f2).length c464_2, .slice A464_3 ((Xa l0 x17_1).f3).length c464_3] 32 (0, 0)) J7)) : p := h
theorem J106 {p : Prop} (h : p := by rw [hg]; exact Nat.ne_of_gt (Xbe (g := gb465) (o := .cells #[.int .i64 ((Xa l0 x17_1).f0), .slice A464_1 ((Xa l0 x17_1).f1).length c464_1, .slice A464_2 ((Xa l0 x17_1).f2).length c464_2, .slice A464_3 ((Xa l0 x17_1).f3).length c464_3] 32 (0, 0)) J7)) : p := h
theorem J107 {p : Prop} (h : p := by rw [hg]; exact Nat.ne_of_lt (Xbe (g := gb503) (o := .cells #[.int .i64 a0_0, .int .i64 a0_1] 40 (0, 0)) (zk BK503.out))) : p := h
theorem J108 {p : Prop} (h : p := by rw [hg]; exact Nat.ne_of_gt (Xbe (g := gb503) (o := .cells #[.int .i64 a0_0, .int .i64 a0_1] 40 (0, 0)) (zk BK503.out))) : p := h
theorem J109 {p : Prop} (h : p := by first | exact HW.out | exact Xda HW.out) : p := h
theorem J110 {p : Prop} (h : p := by (with_reducible repeat (first | refine Xc ?_ _ | refine Xe ?_ | refine Xb ?_ _)); exact BK288.out) : p := h
theorem J111 {p : Prop} (h : p := by (with_reducible repeat (first | apply Kd.V_alloc | apply Kd.V_drewN | apply Kd.V_drew)); exact Kd.V_mono HL393_1.out (fun _ hk => ⟨hk.1.1.1.1.1, ⟨hk.1.1.2, ⟨hk.1.2, ⟨hk.2, ⟨hk.1.1.1.1.2, hk.1.1.1.2⟩⟩⟩⟩⟩)) : p := h
theorem J112 {p : Prop} (h : p := by (with_reducible repeat (first | apply Kd.V_alloc | apply Kd.V_drewN | apply Kd.V_drew)); exact Kd.V_mono HL393_2.out (fun _ hk => ⟨hk.1.1.1.1.1, ⟨hk.1.1.2, ⟨hk.1.2, ⟨hk.2, ⟨hk.1.1.1.1.2, hk.1.1.1.2⟩⟩⟩⟩⟩)) : p := h
theorem J113 {p : Prop} (h : p := by (with_reducible repeat (first | apply Kd.V_alloc | apply Kd.V_drewN | apply Kd.V_drew)); exact Kd.V_mono HL393_3.out (fun _ hk => ⟨hk.1.1.1.1.1, ⟨hk.1.1.2, ⟨hk.1.2, ⟨hk.2, ⟨hk.1.1.1.1.2, hk.1.1.1.2⟩⟩⟩⟩⟩)) : p := h
theorem Xa5 {p : Prop} (h : p := by rfl) : p := h
theorem J115 {p : Prop} (h : p := by have := HJ3.out; have := HJ9.out; have := HK3.out; omega) : p := h
theorem J116 {p : Prop} (h : p := by (with_reducible repeat (first | apply Kd.V_alloc | apply Kd.V_drewN | apply Kd.V_drew)); exact Kd.V_mono HO0.out (fun _ hk => ⟨hk.1.1.1.1.1, ⟨hk.1.1.2, ⟨hk.1.2, ⟨hk.2, ⟨hk.1.1.1.1.2, hk.1.1.1.2⟩⟩⟩⟩⟩)) : p := h
theorem J117 {p : Prop} (h : p := by rw [hg]; exact (Xf (zs1 GE174.out))) : p := h
theorem J118 {p : Prop} (h : p := by rw [hg]; exact (Xf (zs1 GE503.out))) : p := h
theorem J119 {p : Prop} (h : p := by have := HJ4.out; have := HK2.out; first | omega | exact Nat.le_refl _) : p := h
theorem J120 {p : Prop} (h : p := by repeat (first | (with_reducible first | exact HB.out | apply Xah | apply Xy | apply X8 | refine X2 ?_ GE107.out | refine X2 ?_ GE111.out) | exact HB.out)) : p := h
theorem J121 {p : Prop} (h : p := by repeat (first | (with_reducible first | exact HB.out | apply Xah | apply Xy | apply X8 | refine X2 ?_ GE174.out | refine X2 ?_ GE192.out) | exact HB.out)) : p := h
theorem J122 {p : Prop} (h : p := by repeat (first | (with_reducible first | exact HB.out | apply Xah | apply Xy | apply X8 | refine X2 ?_ GE215.out | refine X2 ?_ GE219.out) | exact HB.out)) : p := h
theorem J123 {p : Prop} (h : p := by repeat (first | (with_reducible first | exact HB.out | apply Xah | apply Xy | apply X8 | refine X2 ?_ GE394.out | refine X2 ?_ GE417.out) | exact HB.out)) : p := h
theorem J124 {p : Prop} (h : p := by repeat (first | (with_reducible first | exact HB.out | apply Xah | apply Xy | apply X8 | refine X2 ?_ GE394.out | refine X2 ?_ GE447.out) | exact HB.out)) : p := h
theorem J125 {p : Prop} (h : p := by repeat (first | (with_reducible first | exact HB.out | apply Xah | apply Xy | apply X8 | refine X2 ?_ GE465.out | refine X2 ?_ GE467.out) | exact HB.out)) : p := h
theorem J126 {p : Prop} (h : p := by first | exact q393 | exact of_decide_eq_true J3 | (have e_ := (Kd.V_reads' HO0.out).1; omega)) : p := h
theorem J127 {p : Prop} (h : p := by have := HK1.out; have := HJ5.out; have := HJ14.out; have := HK4.out; have := HJ27.out; omega) : p := h
theorem J128 {p : Prop} (h : p := by rw [hg]; exact (Xf (zs1 GE529.out))) : p := h
theorem J129 {p : Prop} (h : p := by repeat (first | (with_reducible first | exact HB.out | apply Xah | apply Xy | apply X8 | refine X2 ?_ GE174.out) | exact HB.out)) : p := h
theorem J130 {p : Prop} (h : p := by repeat (first | (with_reducible first | exact HB.out | apply Xah | apply Xy | apply X8 | refine X2 ?_ GE234.out) | exact HB.out)) : p := h
theorem J131 {p : Prop} (h : p := by repeat (first | (with_reducible first | exact HB.out | apply Xah | apply Xy | apply X8 | refine X2 ?_ GE273.out) | exact HB.out)) : p := h
theorem J132 {p : Prop} (h : p := by repeat (first | (with_reducible first | exact HB.out | apply Xah | apply Xy | apply X8 | refine X2 ?_ GE529.out) | exact HB.out)) : p := h
theorem J133 {p : Prop} (h : p := by (with_reducible repeat (first | apply Kd.V_alloc | apply Kd.V_drewN | apply Kd.V_drew)); exact Kd.V_mono HO0.out (fun _ hk => ⟨hk, (by simp [Value.ownBlock])⟩)) : p := h
theorem J134 {p : Prop} (h : p := by have h_ : (x25_1 : Int) < ((x4_1.length : Int) : Int) := of_decide_eq_true J3; first | exact h_ | (have e_ := (Kd.N_reads' HO_4.out).1; omega) | simpa using h_) : p := h
theorem J135 {p : Prop} (h : p := by rw [← hq_]; exact (by (with_reducible repeat (first | apply Kd.R_alloc | apply Kd.R_drewN | apply Kd.R_drew)); exact Kd.R_mono HO294.out (fun _ hk => hk.2))) : p := h
theorem J136 {p : Prop} (h : p := by rw [← hq_]; exact (by (with_reducible repeat (first | apply Kd.R_alloc | apply Kd.R_drewN | apply Kd.R_drew)); exact Kd.R_mono HO299.out (fun _ hk => hk.2))) : p := h
theorem J137 {p : Prop} (h : p := by have := HJ3.out; first | omega | exact Nat.le_refl _) : p := h
theorem J138 {p : Prop} (h : p := by have := HK1.out; have := HJ5.out; first | omega | exact Nat.le_refl _) : p := h
theorem J139 {p : Prop} (h : p := by rw [hg]; exact (Xf (zs1 GE288.out))) : p := h
theorem J140 {p : Prop} (h : p := by rw [hg]; exact (Xf (zs1 GE459.out))) : p := h
theorem J141 {p : Prop} (h : p := by rw [hw]; exact (zs1 GE529.out)) : p := h
theorem J142 {p : Prop} (h : p := by rw [hg]; exact Nat.ne_of_lt (Xbe (g := gb105) (o := .cells #[.int .i64 a0_0, .int .i64 a0_1] 40 (0, 0)) (zk BK105.out))) : p := h
theorem J143 {p : Prop} (h : p := by rw [hg]; exact Nat.ne_of_gt (Xbe (g := gb105) (o := .cells #[.int .i64 a0_0, .int .i64 a0_1] 40 (0, 0)) (zk BK105.out))) : p := h
theorem J144 {p : Prop} (h : p := by rw [hg]; exact Nat.ne_of_lt (Xbe (g := gb107) (o := .cells #[.int .i64 a0_0, .int .i64 a0_1] 40 (0, 0)) (zk BK107.out))) : p := h
theorem J145 {p : Prop} (h : p := by rw [hg]; exact Nat.ne_of_gt (Xbe (g := gb107) (o := .cells #[.int .i64 a0_0, .int .i64 a0_1] 40 (0, 0)) (zk BK107.out))) : p := h
theorem J146 {p : Prop} (h : p := by rw [hg]; exact Nat.ne_of_lt (Xbe (g := gb213) (o := .cells #[.int .i64 a0_0, .int .i64 a0_1] 40 (0, 0)) (zk BK213.out))) : p := h
theorem J147 {p : Prop} (h : p := by rw [hg]; exact Nat.ne_of_gt (Xbe (g := gb213) (o := .cells #[.int .i64 a0_0, .int .i64 a0_1] 40 (0, 0)) (zk BK213.out))) : p := h
theorem J148 {p : Prop} (h : p := by rw [hg]; exact Nat.ne_of_lt (Xbe (g := gb215) (o := .cells #[.int .i64 a0_0, .int .i64 a0_1] 40 (0, 0)) (zk BK215.out))) : p := h
theorem J149 {p : Prop} (h : p := by rw [hg]; exact Nat.ne_of_gt (Xbe (g := gb215) (o := .cells #[.int .i64 a0_0, .int .i64 a0_1] 40 (0, 0)) (zk BK215.out))) : p := h
theorem J150 {p : Prop} (h : p := by (with_reducible repeat (first | refine Xc ?_ _ | refine Xe ?_ | refine Xb ?_ _)); exact BK160.out) : p := h
theorem J151 {p : Prop} (h : p := by (with_reducible repeat (first | refine Xc ?_ _ | refine Xe ?_ | refine Xb ?_ _)); exact BK174.out) : p := h
theorem J152 {p : Prop} (h : p := by (with_reducible repeat (first | refine Xc ?_ _ | refine Xe ?_ | refine Xb ?_ _)); exact BK339.out) : p := h
theorem J153 {p : Prop} (h : p := by (with_reducible repeat (first | refine Xc ?_ _ | refine Xe ?_ | refine Xb ?_ _)); exact BK503.out) : p := h
theorem J154 {p : Prop} (h : p := by (with_reducible repeat (first | refine Xc ?_ _ | refine Xe ?_ | refine Xb ?_ _)); exact BK504.out) : p := h
theorem J155 {p : Prop} (h : p := by (with_reducible repeat (first | refine Xc ?_ _ | refine Xe ?_ | refine Xb ?_ _)); exact BK636.out) : p := h
theorem J156 {p : Prop} (h : p := by (with_reducible repeat (first | refine Xc ?_ _ | refine Xe ?_ | refine Xb ?_ _)); exact BK637.out) : p := h
theorem J157 {p : Prop} (h : p := by have := HJ1.out; have := HK2.out; omega) : p := h
theorem J158 {p : Prop} (h : p := by have := HK1.out; have := HJ5.out; have := HJ14.out; have := HK4.out; first | omega | exact Nat.le_refl _) : p := h
theorem J159 {p : Prop} (h : p := by (with_reducible repeat (first | apply Kd.R_alloc | apply Kd.R_drewN | apply Kd.R_drew)); exact HO252.out) : p := h
theorem J160 {p : Prop} (h : p := by (with_reducible repeat (first | apply Kd.R_alloc | apply Kd.R_drewN | apply Kd.R_drew)); exact HO_10.out) : p := h
theorem J161 {p : Prop} (h : p := by have := HJ6.out; first | omega | exact Nat.le_refl _) : p := h
theorem J162 {p : Prop} (h : p := by (with_reducible repeat (first | apply Kd.R_alloc | apply Kd.R_drewN | apply Kd.R_drew)); exact HO_2.out) : p := h
theorem J163 {p : Prop} (h : p := by (with_reducible repeat (first | apply Kd.V_alloc | apply Kd.V_drewN | apply Kd.V_drew)); exact HO_0.out) : p := h
theorem J164 {p : Prop} (h : p := by (with_reducible repeat (first | apply Kd.N_alloc | apply Kd.N_drewN | apply Kd.N_drew)); exact HO_7.out) : p := h
end Go.Proofs.YtfjhiiaahbjaiaaDoor.HSystemFirst
