/- What the Go functions of this claim answer, told as functions of numbers and lists, and that other memory stays as it was: words and walks, shortened by a program. -/
import Derived.Test.YtgbmbcippldhnaaProg
import Derived.Below
import Derived.Deep.Draws
import Derived.Deep.AppendLies
import Derived.Maps.AppendAt
import Derived.OwnWalk
import Derived.Laws.BytesArg
import Derived.Laws.MakeOwn
import Derived.Laws.OwnMore
import Derived.Deep.OwnRows
import Derived.Tactics
import Derived.Lib.ConvBytes
import Derived.Laws.Slices
import Derived.WalkKit
import Derived.KernelRfl
import Derived.RowKit3
import Derived.Deep.LoopGhost
import Derived.Deep.QuietTactic
import Derived.BigQuiet
import Derived.WideLaws
import Derived.Deep.DeepCutAuto
import Derived.Deep.CutBlock
import Derived.Deep.RegionHeld3
import Derived.Laws.Rows
import Derived.Lib.AppendStr
import Derived.ArgAppend
import Derived.Laws.IdiomCopy
import Derived.OrdersHeld
import Derived.Laws.BitsLemmas
import Derived.RowKit
import Derived.Lib.SliceRun
import Derived.Lib.SlBytesConst
import Derived.WalkMore
import Derived.Lib.SlBuf
import Derived.Lib.MakeNoZero
import Derived.Laws.Externs
import Derived.Laws.MathBits
import Derived.Test.YtgbmbcippldhnaaSArraySamew
namespace Go.Proofs.Ytgbmbcippldhnaa.HArraySame
open Go.RowKit Go.Proofs.YtgbmbcippldhnaaW.PrintWords Go.Proofs.YtgbmbcippldhnaaW.PrintLast Go.Proofs.YtgbmbcippldhnaaW.PrintMore
attribute [local go_sem] max2_int min2_int max_two min_two max_three min_three max_four min_four
set_option linter.unusedVariables false
set_option linter.unusedSimpArgs false
def errW : Option Int → Value
  | none => .nilIface
  | some c => .iface 0 (.int .i64 c)
theorem errW_none : errW none = .nilIface := rfl
theorem errW_some (c : Int) : errW (some c) = .iface 0 (.int .i64 c) := rfl
theorem info3 : (Try.prog.info? 3).map (fun i => (i.zero, i.size, i.bytes)) = some (some (.int .i64 0), 1, 8) := by kernel_rfl
theorem info22 : (Try.prog.info? 22).map (fun i => (i.zero, i.size, i.bytes)) = some (some (.slice none 0 0), 1, 24) := by kernel_rfl
theorem info32 : (Try.prog.info? 32).map (fun i => (i.zero, i.size, i.bytes)) = some (some (.agg #[(.int .i64 0), (.slice none 0 0), (.slice none 0 0), (.slice none 0 0)]), 4, 80) := by kernel_rfl
theorem info41 : (Try.prog.info? 41).map (fun i => (i.zero, i.size, i.bytes)) = some (some (.agg #[(.int .i64 0), (.int .i64 0)]), 2, 16) := by kernel_rfl
structure S41 where
  f0 : Int
  f1 : Int
def z41 : S41 := ⟨(0 : Int), (0 : Int)⟩
def k41 : Kd S41 := Kd.iso (Kd.pair (Kd.int .i64) (Kd.int .i64)) (fun x : S41 => (x.f0, x.f1))
theorem k41_heap : Kd.Heap k41 := Kd.heap_iso _ (Kd.heap_pair (Kd.heap_int .i64) (Kd.heap_int .i64))
theorem k41_open {w : World} {x : S41} {cs : List Value} (h : k41.K w x cs) : cs = [.int .i64 x.f0, .int .i64 x.f1] := by
  obtain ⟨_, _, rfl, rfl, rfl⟩ := h
  exact rfl
theorem k41_mk (w : World) (x : S41)  : k41.K w x [.int .i64 x.f0, .int .i64 x.f1] := ⟨[.int .i64 x.f0], [.int .i64 x.f1], rfl, rfl, rfl⟩
theorem k41_mkM (w : World) (base : Nat) (ok : Nat → Prop) (x : S41)  : k41.M w base ok x [.int .i64 x.f0, .int .i64 x.f1] := ⟨[.int .i64 x.f0], [.int .i64 x.f1], rfl, rfl, rfl⟩
def rd_T41 (xs : List S41) (i : Int) : S41 := xs.getD i.toNat z41
theorem at_T41 {w : World} {A : Option Addr} {n : Nat} {xs : List S41} (h : Kd.C k41 w A n xs) (i : Int) (h0 : 0 ≤ i) (h1 : i < n) : ∃ ad , A = some ad ∧ w.cell? (ad.add (i.toNat * 2)) = some (.int .i64 (rd_T41 xs i).f0) ∧ w.cell? ⟨(ad.add (i.toNat * 2)).block, (ad.add (i.toNat * 2)).off + 1, none⟩ = some (.int .i64 (rd_T41 xs i).f1) := by
  obtain ⟨ad, c, e, _, hK, hc0⟩ := Kd.C_get h z41 i h0 h1
  have hc : ∀ j u, c[j]? = some u → w.cell? (ad.add (i.toNat * 2 + j)) = some u := hc0
  obtain rfl := k41_open hK
  exact ⟨ad, e, hc 0 _ rfl, by rw [← add_field _ _ 1 (by omega)]; exact hc 1 _ rfl⟩
structure S32 where
  f0 : Int
  f1 : (List Int)
  f2 : (List Int)
  f3 : (List S41)
def z32 : S32 := ⟨(0 : Int), ([] : List Int), ([] : List Int), ([] : List S41)⟩
def k32 : Kd S32 := Kd.iso (Kd.pair (Kd.int .i64) (Kd.pair (Kd.slice 3 (Kd.int .i64)) (Kd.pair (Kd.slice 3 (Kd.int .i64)) (Kd.slice 41 k41)))) (fun x : S32 => (x.f0, x.f1, x.f2, x.f3))
theorem k32_heap : Kd.Heap k32 := Kd.heap_iso _ (Kd.heap_pair (Kd.heap_int .i64) (Kd.heap_pair (Kd.heap_slice 3 (Kd.heap_int .i64)) (Kd.heap_pair (Kd.heap_slice 3 (Kd.heap_int .i64)) (Kd.heap_slice 41 k41_heap))))
theorem k32_open {w : World} {x : S32} {cs : List Value} (h : k32.K w x cs) : ∃ A1 c1 A2 c2 A3 c3, cs = [.int .i64 x.f0, .slice A1 x.f1.length c1, .slice A2 x.f2.length c2, .slice A3 x.f3.length c3] ∧ x.f1.length ≤ c1 ∧ (Kd.int .i64).C w A1 x.f1.length x.f1 ∧ x.f2.length ≤ c2 ∧ (Kd.int .i64).C w A2 x.f2.length x.f2 ∧ x.f3.length ≤ c3 ∧ k41.C w A3 x.f3.length x.f3 := by
  obtain ⟨_, _, rfl, rfl, ⟨_, _, rfl, ⟨A1, c1, rfl, l1, g1⟩, ⟨_, _, rfl, ⟨A2, c2, rfl, l2, g2⟩, ⟨A3, c3, rfl, l3, g3⟩⟩⟩⟩ := h
  exact ⟨A1, c1, A2, c2, A3, c3, rfl, l1, g1, l2, g2, l3, g3⟩
theorem k32_openM {w : World} {base : Nat} {ok : Nat → Prop} {x : S32} {cs : List Value} (h : k32.M w base ok x cs) : ∃ v1 v2 v3, cs = [.int .i64 x.f0, v1, v2, v3] ∧ (Kd.int .i64).R 3 w base ok v1 x.f1 ∧ (Kd.int .i64).R 3 w base ok v2 x.f2 ∧ k41.R 41 w base ok v3 x.f3 := by
  obtain ⟨_, _, rfl, rfl, ⟨_, _, rfl, ⟨v1, rfl, g1⟩, ⟨_, _, rfl, ⟨v2, rfl, g2⟩, ⟨v3, rfl, g3⟩⟩⟩⟩ := h
  exact ⟨v1, v2, v3, rfl, g1, g2, g3⟩
theorem k32_mk (w : World) (x : S32) {A1 : Option Addr} {c1 : Nat} (l1 : x.f1.length ≤ c1) (g1 : (Kd.int .i64).C w A1 x.f1.length x.f1) {A2 : Option Addr} {c2 : Nat} (l2 : x.f2.length ≤ c2) (g2 : (Kd.int .i64).C w A2 x.f2.length x.f2) {A3 : Option Addr} {c3 : Nat} (l3 : x.f3.length ≤ c3) (g3 : k41.C w A3 x.f3.length x.f3) : k32.K w x [.int .i64 x.f0, .slice A1 x.f1.length c1, .slice A2 x.f2.length c2, .slice A3 x.f3.length c3] := ⟨[.int .i64 x.f0], [.slice A1 x.f1.length c1, .slice A2 x.f2.length c2, .slice A3 x.f3.length c3], rfl, rfl, ⟨[.slice A1 x.f1.length c1], [.slice A2 x.f2.length c2, .slice A3 x.f3.length c3], rfl, ⟨A1, c1, rfl, l1, g1⟩, ⟨[.slice A2 x.f2.length c2], [.slice A3 x.f3.length c3], rfl, ⟨A2, c2, rfl, l2, g2⟩, ⟨A3, c3, rfl, l3, g3⟩⟩⟩⟩
theorem k32_mkM (w : World) (base : Nat) (ok : Nat → Prop) (x : S32) {v1 : Value} (g1 : (Kd.int .i64).R 3 w base ok v1 x.f1) {v2 : Value} (g2 : (Kd.int .i64).R 3 w base ok v2 x.f2) {v3 : Value} (g3 : k41.R 41 w base ok v3 x.f3) : k32.M w base ok x [.int .i64 x.f0, v1, v2, v3] := ⟨[.int .i64 x.f0], [v1, v2, v3], rfl, rfl, ⟨[v1], [v2, v3], rfl, ⟨v1, rfl, g1⟩, ⟨[v2], [v3], rfl, ⟨v2, rfl, g2⟩, ⟨v3, rfl, g3⟩⟩⟩⟩
theorem k32_openF {W : World} {ok : Nat → Prop} {x : S32} {cs : List Value} (h : Kd.FK k32 W ok x cs) : ∃ A1 c1 A2 c2 A3 c3, cs = [.int .i64 x.f0, .slice A1 x.f1.length c1, .slice A2 x.f2.length c2, .slice A3 x.f3.length c3] ∧ x.f1.length ≤ c1 ∧ Kd.F (Kd.int .i64) W ok A1 x.f1.length x.f1 ∧ x.f2.length ≤ c2 ∧ Kd.F (Kd.int .i64) W ok A2 x.f2.length x.f2 ∧ x.f3.length ≤ c3 ∧ Kd.F k41 W ok A3 x.f3.length x.f3 := by
  obtain ⟨A1, c1, A2, c2, A3, c3, rfl, l1, _, l2, _, l3, _⟩ := k32_open (Kd.FK_now h)
  exact ⟨A1, c1, A2, c2, A3, c3, rfl, l1, (fun W' hW => by obtain ⟨A1_, c1_, A2_, c2_, A3_, c3_, he, l1_, g1_, l2_, g2_, l3_, g3_⟩ := k32_open (h W' hW); injection (Option.some.inj (show some (Value.slice A1 x.f1.length c1) = some (Value.slice A1_ x.f1.length c1_) from congrArg (fun l => l[1]?) he)) with ha_ _ _; rw [ha_]; exact g1_), l2, (fun W' hW => by obtain ⟨A1_, c1_, A2_, c2_, A3_, c3_, he, l1_, g1_, l2_, g2_, l3_, g3_⟩ := k32_open (h W' hW); injection (Option.some.inj (show some (Value.slice A2 x.f2.length c2) = some (Value.slice A2_ x.f2.length c2_) from congrArg (fun l => l[2]?) he)) with ha_ _ _; rw [ha_]; exact g2_), l3, (fun W' hW => by obtain ⟨A1_, c1_, A2_, c2_, A3_, c3_, he, l1_, g1_, l2_, g2_, l3_, g3_⟩ := k32_open (h W' hW); injection (Option.some.inj (show some (Value.slice A3 x.f3.length c3) = some (Value.slice A3_ x.f3.length c3_) from congrArg (fun l => l[3]?) he)) with ha_ _ _; rw [ha_]; exact g3_)⟩
theorem k32_mkF (W : World) (ok : Nat → Prop) (x : S32) {A1 : Option Addr} {c1 : Nat} (l1 : x.f1.length ≤ c1) (g1 : Kd.F (Kd.int .i64) W ok A1 x.f1.length x.f1) {A2 : Option Addr} {c2 : Nat} (l2 : x.f2.length ≤ c2) (g2 : Kd.F (Kd.int .i64) W ok A2 x.f2.length x.f2) {A3 : Option Addr} {c3 : Nat} (l3 : x.f3.length ≤ c3) (g3 : Kd.F k41 W ok A3 x.f3.length x.f3) : Kd.FK k32 W ok x [.int .i64 x.f0, .slice A1 x.f1.length c1, .slice A2 x.f2.length c2, .slice A3 x.f3.length c3] := fun W2 hW => k32_mk W2 x l1 (g1 W2 hW) l2 (g2 W2 hW) l3 (g3 W2 hW)
def rd_T32 (xs : List S32) (i : Int) : S32 := xs.getD i.toNat z32
theorem at_T32 {w : World} {A : Option Addr} {n : Nat} {xs : List S32} (h : Kd.C k32 w A n xs) (i : Int) (h0 : 0 ≤ i) (h1 : i < n) : ∃ ad A1 c1 A2 c2 A3 c3, A = some ad ∧ w.cell? (ad.add (i.toNat * 4)) = some (.int .i64 (rd_T32 xs i).f0) ∧ w.cell? ⟨(ad.add (i.toNat * 4)).block, (ad.add (i.toNat * 4)).off + 1, none⟩ = some (.slice A1 (rd_T32 xs i).f1.length c1) ∧ w.cell? ⟨(ad.add (i.toNat * 4)).block, (ad.add (i.toNat * 4)).off + 2, none⟩ = some (.slice A2 (rd_T32 xs i).f2.length c2) ∧ w.cell? ⟨(ad.add (i.toNat * 4)).block, (ad.add (i.toNat * 4)).off + 3, none⟩ = some (.slice A3 (rd_T32 xs i).f3.length c3) ∧ (rd_T32 xs i).f1.length ≤ c1 ∧ (Kd.int .i64).C w A1 (rd_T32 xs i).f1.length (rd_T32 xs i).f1 ∧ (rd_T32 xs i).f2.length ≤ c2 ∧ (Kd.int .i64).C w A2 (rd_T32 xs i).f2.length (rd_T32 xs i).f2 ∧ (rd_T32 xs i).f3.length ≤ c3 ∧ k41.C w A3 (rd_T32 xs i).f3.length (rd_T32 xs i).f3 := by
  obtain ⟨ad, c, e, _, hK, hc0⟩ := Kd.C_get h z32 i h0 h1
  have hc : ∀ j u, c[j]? = some u → w.cell? (ad.add (i.toNat * 4 + j)) = some u := hc0
  obtain ⟨A1, c1, A2, c2, A3, c3, rfl, l1, g1, l2, g2, l3, g3⟩ := k32_open hK
  exact ⟨ad, A1, c1, A2, c2, A3, c3, e, hc 0 _ rfl, by rw [← add_field _ _ 1 (by omega)]; exact hc 1 _ rfl, by rw [← add_field _ _ 2 (by omega)]; exact hc 2 _ rfl, by rw [← add_field _ _ 3 (by omega)]; exact hc 3 _ rfl, l1, g1, l2, g2, l3, g3⟩
def rd_L5 (xs : List (List S32)) (i : Int) : (List S32) := xs.getD i.toNat ([] : List S32)
theorem at_L5 {w : World} {A : Option Addr} {n : Nat} {xs : List (List S32)} (h : Kd.C (Kd.slice 32 k32) w A n xs) (i : Int) (h0 : 0 ≤ i) (h1 : i < n) : ∃ ad A0 c0, A = some ad ∧ w.cell? (ad.add i.toNat) = some (.slice A0 (rd_L5 xs i).length c0) ∧ (rd_L5 xs i).length ≤ c0 ∧ k32.C w A0 (rd_L5 xs i).length (rd_L5 xs i) := by
  obtain ⟨ad, c, e, _, hK, hc0⟩ := Kd.C_get h ([] : List S32) i h0 h1
  have hc : ∀ j u, c[j]? = some u → w.cell? (ad.add (i.toNat * 1 + j)) = some u := hc0
  obtain ⟨A0, c0, rfl, l0, g0⟩ := hK
  exact ⟨ad, A0, c0, e, by have hq := hc 0 _ rfl; rwa [Nat.mul_one, Nat.add_zero] at hq, l0, g0⟩
end Go.Proofs.Ytgbmbcippldhnaa.HArraySame
namespace Go.Proofs.Ytgbmbcippldhnaa.HArraySame
open Go.RowKit Go.Proofs.YtgbmbcippldhnaaW.PrintWords Go.Proofs.YtgbmbcippldhnaaW.PrintLast Go.Proofs.YtgbmbcippldhnaaW.PrintMore
set_option linter.unusedVariables false
theorem zv {q p : Prop} (h : q) (i : q → p := by intro h_; (with_reducible repeat (first | apply Kd.V_alloc | apply Kd.V_drewN | apply Kd.V_drew)); exact h_) : p := i h
theorem zn {q p : Prop} (h : q) (i : q → p := by intro h_; (with_reducible repeat (first | apply Kd.N_alloc | apply Kd.N_drewN | apply Kd.N_drew)); exact h_) : p := i h
theorem zr {q p : Prop} (h : q) (i : q → p := by intro h_; (with_reducible repeat (first | apply Kd.R_alloc | apply Kd.R_drewN | apply Kd.R_drew)); exact h_) : p := i h
theorem zs1 {q0 p : Prop} (h0 : q0) (i : q0 → p := by intro g0_; repeat (first | (with_reducible first | exact HB.out | apply below_alloc | apply pw_below_drewN | apply below_drew1 | refine below_set ?_ g0_) | exact HB.out)) : p := i h0
theorem zk {q p : Prop} (h : q) (i : q → p := by intro h_; (with_reducible repeat (first | refine blk_drewN ?_ _ | refine blk_drew ?_ | refine blk_alloc ?_ _)); exact h_) : p := i h
theorem zs2 {q0 q1 p : Prop} (h0 : q0) (h1 : q1) (i : q0 → q1 → p := by intro g0_ g1_; repeat (first | (with_reducible first | exact HB.out | apply below_alloc | apply pw_below_drewN | apply below_drew1 | refine below_set ?_ g0_ | refine below_set ?_ g1_) | exact HB.out)) : p := i h0 h1
theorem zb {q p : Prop} (h : q) (i : q → p := by intro h_; first | (rw [add_block]; exact h_) | (show (Addr.add _ _).block ≠ _; rw [add_block]; exact h_) | exact h_) : p := i h
theorem zs {q p : Prop} (h : q) (i : q → p := by intro h_; (with_reducible repeat (first | apply Kd.S_alloc | apply Kd.S_drewN | apply Kd.S_drew)); exact h_) : p := i h
theorem cz2 {w : World} {g : Nat} {t : TypeId} {a0 a1 : Value} (h : w.heap[g]? = some (.cells #[a0, a1] t (0, 0))) : w.cell? ⟨g, 0, none⟩ = some a0 ∧ w.cell? ⟨g, 1, none⟩ = some a1 ∧ w.frozen? ⟨g, 0, none⟩ = false ∧ w.frozen? ⟨g, 1, none⟩ = false :=
  ⟨(blk_cell h 0).trans rfl, (blk_cell h 1).trans rfl, blk_frozen h 0, blk_frozen h 1⟩
theorem cz4 {w : World} {g : Nat} {t : TypeId} {a0 a1 a2 a3 : Value} (h : w.heap[g]? = some (.cells #[a0, a1, a2, a3] t (0, 0))) : w.cell? ⟨g, 0, none⟩ = some a0 ∧ w.cell? ⟨g, 1, none⟩ = some a1 ∧ w.cell? ⟨g, 2, none⟩ = some a2 ∧ w.cell? ⟨g, 3, none⟩ = some a3 ∧ w.frozen? ⟨g, 0, none⟩ = false ∧ w.frozen? ⟨g, 1, none⟩ = false ∧ w.frozen? ⟨g, 2, none⟩ = false ∧ w.frozen? ⟨g, 3, none⟩ = false :=
  ⟨(blk_cell h 0).trans rfl, (blk_cell h 1).trans rfl, (blk_cell h 2).trans rfl, (blk_cell h 3).trans rfl, blk_frozen h 0, blk_frozen h 1, blk_frozen h 2, blk_frozen h 3⟩
theorem J0 {p : Prop} (h : p := by repeat (first | (with_reducible first | exact HB.out | apply below_alloc | apply pw_below_drewN | apply below_drew1) | exact HB.out)) : p := h
theorem J1 {p : Prop} (h : p := by (try simp only [List.map_toArray, List.map_cons, List.map_nil]); first | done | rfl | (simp only [List.length_drop, List.length_take]; rfl)) : p := h
theorem J2 {p : Prop} (h : p := by first | (with_reducible assumption) | assumption) : p := h
theorem J3 {p : Prop} (h : p := by (with_reducible repeat (first | refine blk_drewN ?_ _ | refine blk_drew ?_ | refine blk_alloc ?_ _)); refine blk_put (cs := #[.int .i64 ((rd_T32 l0 x17_1).f0), .slice A207_1 ((rd_T32 l0 x17_1).f1).length c207_1, .slice A207_2 ((rd_T32 l0 x17_1).f2).length c207_2, .slice none 0 0]) ?_ 3 _ rfl; (with_reducible repeat (first | refine blk_drewN ?_ _ | refine blk_drew ?_ | refine blk_alloc ?_ _)); refine blk_put (cs := #[.int .i64 ((rd_T32 l0 x17_1).f0), .slice A207_1 ((rd_T32 l0 x17_1).f1).length c207_1, .slice none 0 0, .slice none 0 0]) ?_ 2 _ rfl; (with_reducible repeat (first | refine blk_drewN ?_ _ | refine blk_drew ?_ | refine blk_alloc ?_ _)); refine blk_put (cs := #[.int .i64 ((rd_T32 l0 x17_1).f0), .slice none 0 0, .slice none 0 0, .slice none 0 0]) ?_ 1 _ rfl; (with_reducible repeat (first | refine blk_drewN ?_ _ | refine blk_drew ?_ | refine blk_alloc ?_ _)); refine blk_put (cs := #[.int .i64 0, .slice none 0 0, .slice none 0 0, .slice none 0 0]) ?_ 0 _ rfl; (with_reducible repeat (first | refine blk_drewN ?_ _ | refine blk_drew ?_ | refine blk_alloc ?_ _)); exact BK208.out) : p := h
theorem J4 {p : Prop} (h : p := by first | rfl | (simp [errW_none, errW_some] <;> rfl) | (simp [*, errW_none, errW_some] <;> rfl)) : p := h
theorem J5 {p : Prop} (h : p := by first | rfl | (simp; done) | (simp [*]; done)) : p := h
theorem J6 {p : Prop} (h : p := by repeat (first | exact Drawn0.refl _ | apply Drawn0.step)) : p := h
theorem J7 {p : Prop} (h : p := by rw [if_neg (show ¬ (false = true) by decide)] at H; exact H) : p := h
theorem J8 {p : Prop} (h : p := by kernel_rfl) : p := h
theorem J9 {p : Prop} (h : p := by first | (rw [add_block]; exact (fun e_ => by have ho_ := V_okb (Kd.N_V (base' := 0) HO_7.out) (by have h0_ := of_eq_true p313; have h1_ := of_eq_true q313; omega) (by decide); first | exact ho_.2 e_ | exact ho_.1.2 e_ | exact ho_.1.1.2 e_ | exact ho_.1.1.1.2 e_ | exact ho_.1.1.1.1.2 e_ | exact ho_.1.1.1.1.1.2 e_ | exact ho_.1.1.1.1.1.1.2 e_ | exact ho_.2.1 e_ | exact ho_.2.2 e_ | exact ho_.2.2.1 e_ | exact ho_.2.2.2 e_ | exact ho_.2.2.2.1 e_ | exact ho_.2.2.2.2 e_ | exact ho_.1.2.1 e_ | exact ho_.1.2.2 e_ | exact ho_.1.2.2.1 e_ | exact ho_.1.2.2.2 e_ | exact ho_.1.2.2.2.1 e_ | exact ho_.1.2.2.2.2 e_ | exact ho_.1.1.2.1 e_ | exact ho_.1.1.2.2 e_ | exact ho_.1.1.2.2.1 e_ | exact ho_.1.1.2.2.2 e_ | exact ho_.1.1.2.2.2.1 e_ | exact ho_.1.1.2.2.2.2 e_)) | (show some (Addr.add _ _).block ≠ _; rw [add_block]; exact (fun e_ => by have ho_ := V_okb (Kd.N_V (base' := 0) HO_7.out) (by have h0_ := of_eq_true p313; have h1_ := of_eq_true q313; omega) (by decide); first | exact ho_.2 e_ | exact ho_.1.2 e_ | exact ho_.1.1.2 e_ | exact ho_.1.1.1.2 e_ | exact ho_.1.1.1.1.2 e_ | exact ho_.1.1.1.1.1.2 e_ | exact ho_.1.1.1.1.1.1.2 e_ | exact ho_.2.1 e_ | exact ho_.2.2 e_ | exact ho_.2.2.1 e_ | exact ho_.2.2.2 e_ | exact ho_.2.2.2.1 e_ | exact ho_.2.2.2.2 e_ | exact ho_.1.2.1 e_ | exact ho_.1.2.2 e_ | exact ho_.1.2.2.1 e_ | exact ho_.1.2.2.2 e_ | exact ho_.1.2.2.2.1 e_ | exact ho_.1.2.2.2.2 e_ | exact ho_.1.1.2.1 e_ | exact ho_.1.1.2.2 e_ | exact ho_.1.1.2.2.1 e_ | exact ho_.1.1.2.2.2 e_ | exact ho_.1.1.2.2.2.1 e_ | exact ho_.1.1.2.2.2.2 e_)) | exact (fun e_ => by have ho_ := V_okb (Kd.N_V (base' := 0) HO_7.out) (by have h0_ := of_eq_true p313; have h1_ := of_eq_true q313; omega) (by decide); first | exact ho_.2 e_ | exact ho_.1.2 e_ | exact ho_.1.1.2 e_ | exact ho_.1.1.1.2 e_ | exact ho_.1.1.1.1.2 e_ | exact ho_.1.1.1.1.1.2 e_ | exact ho_.1.1.1.1.1.1.2 e_ | exact ho_.2.1 e_ | exact ho_.2.2 e_ | exact ho_.2.2.1 e_ | exact ho_.2.2.2 e_ | exact ho_.2.2.2.1 e_ | exact ho_.2.2.2.2 e_ | exact ho_.1.2.1 e_ | exact ho_.1.2.2 e_ | exact ho_.1.2.2.1 e_ | exact ho_.1.2.2.2 e_ | exact ho_.1.2.2.2.1 e_ | exact ho_.1.2.2.2.2 e_ | exact ho_.1.1.2.1 e_ | exact ho_.1.1.2.2 e_ | exact ho_.1.1.2.2.1 e_ | exact ho_.1.1.2.2.2 e_ | exact ho_.1.1.2.2.2.1 e_ | exact ho_.1.1.2.2.2.2 e_)) : p := h
theorem J10 {p : Prop} (h : p := by repeat (first | (with_reducible first | exact HB.out | apply below_alloc | apply pw_below_drewN | apply below_drew1 | refine below_set ?_ GE148.out) | exact HB.out)) : p := h
theorem J11 {p : Prop} (h : p := by repeat (first | (with_reducible first | exact HB.out | apply below_alloc | apply pw_below_drewN | apply below_drew1 | refine below_set ?_ GE142.out) | exact HB.out)) : p := h
theorem J12 {p : Prop} (h : p := by (with_reducible repeat (first | refine blk_drewN ?_ _ | refine blk_drew ?_ | refine blk_alloc ?_ _)); refine blk_put (cs := #[.int .i64 0, .int .i64 0]) ?_ 1 _ rfl; (with_reducible repeat (first | refine blk_drewN ?_ _ | refine blk_drew ?_ | refine blk_alloc ?_ _)); refine blk_put (cs := #[.int .i64 0, .int .i64 0]) ?_ 0 _ rfl; (with_reducible repeat (first | refine blk_drewN ?_ _ | refine blk_drew ?_ | refine blk_alloc ?_ _)); exact BK133.out) : p := h
theorem J13 {p : Prop} (h : p := by repeat (first | (with_reducible first | exact HB.out | apply below_alloc | apply pw_below_drewN | apply below_drew1 | refine below_set ?_ GE132.out | refine below_set ?_ GE133.out) | exact HB.out)) : p := h
theorem J14 {p : Prop} (h : p := by rw [if_pos rfl] at H; exact H) : p := h
theorem J15 {p : Prop} (h : p := by (with_reducible repeat (first | refine blk_drewN ?_ _ | refine blk_drew ?_ | refine blk_alloc ?_ _)); exact BK148.out) : p := h
theorem J16 {p : Prop} (h : p := by (with_reducible repeat (first | refine blk_drewN ?_ _ | refine blk_drew ?_ | refine blk_alloc ?_ _)); refine blk_put (cs := #[.int .i64 ((rd_T32 l1 x17_1).f0), .slice A209_1 ((rd_T32 l1 x17_1).f1).length c209_1, .slice A209_2 ((rd_T32 l1 x17_1).f2).length c209_2, .slice none 0 0]) ?_ 3 _ rfl; (with_reducible repeat (first | refine blk_drewN ?_ _ | refine blk_drew ?_ | refine blk_alloc ?_ _)); refine blk_put (cs := #[.int .i64 ((rd_T32 l1 x17_1).f0), .slice A209_1 ((rd_T32 l1 x17_1).f1).length c209_1, .slice none 0 0, .slice none 0 0]) ?_ 2 _ rfl; (with_reducible repeat (first | refine blk_drewN ?_ _ | refine blk_drew ?_ | refine blk_alloc ?_ _)); refine blk_put (cs := #[.int .i64 ((rd_T32 l1 x17_1).f0), .slice none 0 0, .slice none 0 0, .slice none 0 0]) ?_ 1 _ rfl; (with_reducible repeat (first | refine blk_drewN ?_ _ | refine blk_drew ?_ | refine blk_alloc ?_ _)); refine blk_put (cs := #[.int .i64 0, .slice none 0 0, .slice none 0 0, .slice none 0 0]) ?_ 0 _ rfl; (with_reducible repeat (first | refine blk_drewN ?_ _ | refine blk_drew ?_ | refine blk_alloc ?_ _)); exact BK210.out) : p := h
theorem J17 {p : Prop} (h : p := by decide) : p := h
theorem J18 {p : Prop} (h : p := by rw [hg]; exact (below_size J0)) : p := h
theorem J19 {p : Prop} (h : p := by (with_reducible repeat (first | apply Kd.R_alloc | apply Kd.R_drewN | apply Kd.R_drew)); exact HO_5.out) : p := h
theorem J20 {p : Prop} (h : p := by (with_reducible repeat (first | refine blk_drewN ?_ _ | refine blk_drew ?_ | refine blk_alloc ?_ _)); refine blk_far ?_ NB208_210.out _; (with_reducible repeat (first | refine blk_drewN ?_ _ | refine blk_drew ?_ | refine blk_alloc ?_ _)); refine blk_far ?_ NB208_210.out _; (with_reducible repeat (first | refine blk_drewN ?_ _ | refine blk_drew ?_ | refine blk_alloc ?_ _)); refine blk_far ?_ NB208_210.out _; (with_reducible repeat (first | refine blk_drewN ?_ _ | refine blk_drew ?_ | refine blk_alloc ?_ _)); refine blk_far ?_ NB208_210.out _; (with_reducible repeat (first | refine blk_drewN ?_ _ | refine blk_drew ?_ | refine blk_alloc ?_ _)); exact BK208.out) : p := h
theorem J21 {p : Prop} (h : p := by simp) : p := h
theorem J22 {p : Prop} (h : p := by have := World.block_lt_of_cell? _ _ hx209_0; first | rwa [add_block] at this | exact this) : p := h
theorem J23 {p : Prop} (h : p := by first | omega | exact Nat.le_refl _) : p := h
theorem J24 {p : Prop} (h : p := by rw [hg]; exact Nat.ne_of_lt (blk_lt (g := gb202) (o := .cells #[.int .i64 a0_0, .slice A0_1 l0_1.length c0_1, .slice A0_2 l0_2.length c0_2, .slice A0_3 l0_3.length c0_3] 32 (0, 0)) (zk BK202.out))) : p := h
theorem J25 {p : Prop} (h : p := by rw [hg]; exact Nat.ne_of_gt (blk_lt (g := gb202) (o := .cells #[.int .i64 a0_0, .slice A0_1 l0_1.length c0_1, .slice A0_2 l0_2.length c0_2, .slice A0_3 l0_3.length c0_3] 32 (0, 0)) (zk BK202.out))) : p := h
theorem J26 {p : Prop} (h : p := by repeat (first | (with_reducible first | exact HB.out | apply below_alloc | apply pw_below_drewN | apply below_drew1 | refine below_set ?_ GE202.out | refine below_set ?_ GE203.out) | exact HB.out)) : p := h
theorem J27 {p : Prop} (h : p := by (with_reducible repeat (first | refine blk_drewN ?_ _ | refine blk_drew ?_ | refine blk_alloc ?_ _)); exact BK142.out) : p := h
theorem J28 {p : Prop} (h : p := by omega) : p := h
theorem J29 {p : Prop} (h : p := by (with_reducible repeat (first | refine blk_drewN ?_ _ | refine blk_drew ?_ | refine blk_alloc ?_ _)); refine blk_put (cs := #[.int .i64 ((rd_T41 l0 x9_1).f0), .int .i64 0]) ?_ 1 _ rfl; (with_reducible repeat (first | refine blk_drewN ?_ _ | refine blk_drew ?_ | refine blk_alloc ?_ _)); refine blk_put (cs := #[.int .i64 0, .int .i64 0]) ?_ 0 _ rfl; (with_reducible repeat (first | refine blk_drewN ?_ _ | refine blk_drew ?_ | refine blk_alloc ?_ _)); exact BK140.out) : p := h
theorem J30 {p : Prop} (h : p := by (with_reducible repeat (first | refine blk_drewN ?_ _ | refine blk_drew ?_ | refine blk_alloc ?_ _)); refine blk_put (cs := #[.int .i64 x133000_1, .int .i64 0]) ?_ 1 _ rfl; (with_reducible repeat (first | refine blk_drewN ?_ _ | refine blk_drew ?_ | refine blk_alloc ?_ _)); refine blk_put (cs := #[.int .i64 0, .int .i64 0]) ?_ 0 _ rfl; (with_reducible repeat (first | refine blk_drewN ?_ _ | refine blk_drew ?_ | refine blk_alloc ?_ _)); exact BK133.out) : p := h
theorem J31 {p : Prop} (h : p := by first | exact Kd.R_nil _ _ _ _ _ | exact Kd.N_nil _ _ _ _ _ | exact Kd.V_nil _ _ _ _ _ | exact Kd.Q_nil _ _ _ _ _ | exact Kd.S_nil _ _ _ _ _) : p := h
theorem J32 {p : Prop} (h : p := by (with_reducible repeat (first | apply Kd.V_alloc | apply Kd.V_drewN | apply Kd.V_drew)); exact HO0.out) : p := h
theorem J33 {p : Prop} (h : p := by (with_reducible repeat (first | apply Kd.V_alloc | apply Kd.V_drewN | apply Kd.V_drew)); exact Kd.V_mono HO_0.out (fun _ hk => ⟨⟨hk.1.1, hk.2⟩, hk.1.2⟩)) : p := h
theorem J34 {p : Prop} (h : p := by rw [hg]; exact (below_size (zs1 GE202.out))) : p := h
theorem J35 {p : Prop} (h : p := by rw [hg]; exact Nat.ne_of_lt (blk_lt (g := gb208) (o := .cells #[.int .i64 ((rd_T32 l0 x17_1).f0), .slice A207_1 ((rd_T32 l0 x17_1).f1).length c207_1, .slice A207_2 ((rd_T32 l0 x17_1).f2).length c207_2, .slice A207_3 ((rd_T32 l0 x17_1).f3).length c207_3] 32 (0, 0)) J3)) : p := h
theorem J36 {p : Prop} (h : p := by rw [hg]; exact Nat.ne_of_gt (blk_lt (g := gb208) (o := .cells #[.int .i64 ((rd_T32 l0 x17_1).f0), .slice A207_1 ((rd_T32 l0 x17_1).f1).length c207_1, .slice A207_2 ((rd_T32 l0 x17_1).f2).length c207_2, .slice A207_3 ((rd_T32 l0 x17_1).f3).length c207_3] 32 (0, 0)) J3)) : p := h
theorem J37 {p : Prop} (h : p := by have := HJ6.out; first | omega | exact Nat.le_refl _) : p := h
theorem J38 {p : Prop} (h : p := by rfl) : p := h
theorem J39 {p : Prop} (h : p := by first | exact HW.out | exact below_drew HW.out) : p := h
theorem J40 {p : Prop} (h : p := by first | simpa using c3 | (simp at c3 ⊢; omega)) : p := h
theorem J41 {p : Prop} (h : p := by have := HK1.out; omega) : p := h
theorem J42 {p : Prop} (h : p := by have := HK1.out; first | omega | exact Nat.le_refl _) : p := h
theorem J43 {p : Prop} (h : p := by (with_reducible repeat (first | apply Kd.S_alloc | apply Kd.S_drewN | apply Kd.S_drew)); exact HO360.out) : p := h
theorem J44 {p : Prop} (h : p := by (with_reducible repeat (first | apply Kd.S_alloc | apply Kd.S_drewN | apply Kd.S_drew)); exact HO363.out) : p := h
theorem J45 {p : Prop} (h : p := by (with_reducible repeat (first | apply Kd.S_alloc | apply Kd.S_drewN | apply Kd.S_drew)); exact HO366.out) : p := h
theorem J46 {p : Prop} (h : p := by (with_reducible repeat (first | apply Kd.V_alloc | apply Kd.V_drewN | apply Kd.V_drew)); exact HO1.out) : p := h
theorem J47 {p : Prop} (h : p := by skip; exact Kd.N_F (Kd.N_mono (ok' := (fun k_ => ((fun k_ => ((P0_ k_ ∨ P1_ k_) ∨ w.heap.size ≤ k_))) k_ ∧ some k_ ≠ (v227 : Value).ownBlock)) (HO231.out) (fun k_ hk => ⟨hk.1, hk.2⟩))) : p := h
theorem J48 {p : Prop} (h : p := by repeat (first | (with_reducible first | exact HB.out | apply below_alloc | apply pw_below_drewN | apply below_drew1 | refine below_set ?_ GE134.out | refine below_set ?_ GE138.out) | exact HB.out)) : p := h
theorem J49 {p : Prop} (h : p := by repeat (first | (with_reducible first | exact HB.out | apply below_alloc | apply pw_below_drewN | apply below_drew1 | refine below_set ?_ GE208.out | refine below_set ?_ GE210.out) | exact HB.out)) : p := h
theorem J50 {p : Prop} (h : p := by have := HK1.out; have := HJ5.out; have := HJ14.out; have := HK4.out; have := HJ27.out; omega) : p := h
theorem J51 {p : Prop} (h : p := by repeat (first | (with_reducible first | exact HB.out | apply below_alloc | apply pw_below_drewN | apply below_drew1 | refine below_set ?_ GE140.out) | exact HB.out)) : p := h
theorem J52 {p : Prop} (h : p := by (with_reducible repeat (first | apply Kd.V_alloc | apply Kd.V_drewN | apply Kd.V_drew)); exact Kd.V_mono HO0.out (fun _ hk => ⟨hk, (by simp [Value.ownBlock])⟩)) : p := h
theorem J53 {p : Prop} (h : p := by (with_reducible repeat (first | apply Kd.V_alloc | apply Kd.V_drewN | apply Kd.V_drew)); exact Kd.V_mono HO_1.out (fun _ hk => ⟨⟨hk.1.1, hk.2⟩, hk.1.2⟩)) : p := h
theorem J54 {p : Prop} (h : p := by (with_reducible repeat (first | apply Kd.N_alloc | apply Kd.N_drewN | apply Kd.N_drew)); exact Kd.N_mono HO283.out (fun _ hk => ⟨hk.2.2.1, hk.2.2.2.2.2.2.2⟩)) : p := h
theorem J55 {p : Prop} (h : p := by have h_ : (a2 : Int) < ((t358.length : Int) : Int) := of_decide_eq_true J2; first | exact h_ | (have e_ := (Kd.S_reads' HO_10.out).1; omega) | simpa using h_) : p := h
theorem J56 {p : Prop} (h : p := by (with_reducible repeat (first | apply Kd.N_alloc | apply Kd.N_drewN | apply Kd.N_drew)); exact Kd.N_mono HO279.out (fun _ hk => ⟨hk.1.2.2.1, hk.2⟩)) : p := h
theorem J57 {p : Prop} (h : p := by (with_reducible repeat (first | apply Kd.N_alloc | apply Kd.N_drewN | apply Kd.N_drew)); exact Kd.N_mono HO259.out (fun _ hk => ⟨hk.1.2, hk.2⟩)) : p := h
theorem J58 {p : Prop} (h : p := by first | exact Kd.S_nil _ _ _ _ _ | exact Kd.N_nil _ _ _ _ _ | exact Kd.V_nil _ _ _ _ _ | exact Kd.Q_nil _ _ _ _ _ | exact Kd.R_nil _ _ _ _ _) : p := h
theorem J59 {p : Prop} (h : p := by have := HK1.out; have := HJ5.out; first | omega | exact Nat.le_refl _) : p := h
theorem J60 {p : Prop} (h : p := by (with_reducible repeat (first | apply Kd.N_alloc | apply Kd.N_drewN | apply Kd.N_drew)); exact Kd.N_mono HO228.out (fun _ hk => hk.1)) : p := h
theorem J61 {p : Prop} (h : p := by have h0_ := of_eq_true p313; have h1_ := of_eq_true q313; omega) : p := h
theorem J62 {p : Prop} (h : p := by rw [hg]; exact (below_size (zs1 GE132.out))) : p := h
theorem J63 {p : Prop} (h : p := by rw [hg]; exact (below_size (zs1 GE134.out))) : p := h
theorem J64 {p : Prop} (h : p := by rw [hg]; exact (below_size (zs1 GE208.out))) : p := h
theorem J65 {p : Prop} (h : p := by rw [hg]; exact Nat.ne_of_lt (blk_lt (g := gb132) (o := .cells #[.int .i64 a0_0, .int .i64 a0_1] 41 (0, 0)) (zk BK132.out))) : p := h
theorem J66 {p : Prop} (h : p := by rw [hg]; exact Nat.ne_of_gt (blk_lt (g := gb132) (o := .cells #[.int .i64 a0_0, .int .i64 a0_1] 41 (0, 0)) (zk BK132.out))) : p := h
theorem J67 {p : Prop} (h : p := by rw [hg]; exact Nat.ne_of_lt (blk_lt (g := gb134) (o := .cells #[.int .i64 a0_0, .int .i64 a0_1] 41 (0, 0)) (zk BK134.out))) : p := h
theorem J68 {p : Prop} (h : p := by rw [hg]; exact Nat.ne_of_gt (blk_lt (g := gb134) (o := .cells #[.int .i64 a0_0, .int .i64 a0_1] 41 (0, 0)) (zk BK134.out))) : p := h
theorem J69 {p : Prop} (h : p := by have := HK1.out; have := HJ5.out; have := HJ14.out; have := HK4.out; first | omega | exact Nat.le_refl _) : p := h
theorem J70 {p : Prop} (h : p := by (with_reducible repeat (first | apply Kd.R_alloc | apply Kd.R_drewN | apply Kd.R_drew)); exact HO158.out) : p := h
theorem J71 {p : Prop} (h : p := by (with_reducible repeat (first | apply Kd.R_alloc | apply Kd.R_drewN | apply Kd.R_drew)); exact HO_2.out) : p := h
theorem J72 {p : Prop} (h : p := by (with_reducible repeat (first | apply Kd.V_alloc | apply Kd.V_drewN | apply Kd.V_drew)); exact HO_0.out) : p := h
end Go.Proofs.Ytgbmbcippldhnaa.HArraySame
