/- What the Go functions of this claim answer, told as functions of numbers and lists, and that other memory stays as it was: words and walks, shortened by a program. -/
import Derived.Test.YtfjhiiaahbjaiaaDoorSSystemFirstx0
import Derived.Test.YtfjhiiaahbjaiaaDoorSSystemFirstx1
namespace Go.Proofs.YtfjhiiaahbjaiaaDoor.HSystemFirst
open Go.RowKit Go.Proofs.YtfjhiiaahbjaiaaDoorW.PrintWords Go.Proofs.YtfjhiiaahbjaiaaDoorW.PrintLast Go.Proofs.YtfjhiiaahbjaiaaDoorW.PrintMore
attribute [local go_sem] Xby Xbw Xcb Xca Xbp Xbo Xbx Xbv
set_option linter.unusedVariables false
set_option linter.unusedSimpArgs false
attribute [local go_sem high] eqA40
def Xai.l0 : Nat → Int → Int → Option (Int × Int × Bool)
 | 0, _, _ => none
 | k + 1, x214000, x214001 => if (Int.tmod x214000 10) = 0 then (if x214001 ≤ 32767 then (Xai.l0 k (wrap64 (Int.tdiv x214000 10)) (wrap64 (x214001 + 1))) else (if x214001 < (-32768) then (some (0, 0, false)) else (if x214001 > 32767 then (some (0, 0, false)) else (some (x214000, x214001, true))))) else (if x214001 < (-32768) then (some (0, 0, false)) else (if x214001 > 32767 then (some (0, 0, false)) else (some (x214000, x214001, true))))
def Xai.f (k : Nat) (a0_0 : Int) (a0_1 : Int) : Option (Int × Int × Bool) := if a0_0 = 0 then (some (0, 0, true)) else (Xai.l0 k a0_0 a0_1)
theorem Xai.mono_l : ∀ k, (∀ y0 y1, LeO (Xai.l0 k y0 y1) (Xai.l0 (k + 1) y0 y1))
 | 0 => fun _ _ r h => by simp [Xai.l0] at h
 | k + 1 => by
  have ih0 := Xai.mono_l k
  ·intro y0 y1
   unfold Xai.l0
   exact mz0
theorem Xai.mono : ∀ a0 a1 k, LeO (Xai.f k a0 a1) (Xai.f (k + 1) a0 a1) := by
 intro a0 a1 k
 have ih0 := Xai.mono_l k
 unfold Xai.f
 exact mz0
set_option maxHeartbeats 8000000 in
set_option maxRecDepth 100000 in
theorem Xai.calls (k : Nat) (a0_0 : Int) (a0_1 : Int) (r1 : Int) (r2 : Int) (r3 : Bool) (w : World) (h : Xai.f k a0_0 a0_1 = some (r1, r2, r3)) :
  Calls Tryd.prog 38 #[.agg #[.int .i64 a0_0, .int .i64 a0_1]] w fun e w' => e = .returned (.tuple #[.agg #[.int .i64 r1, .int .i64 r2], .bool r3]) ∧ Below w.heap.size w w' := by
 have hu40 := Tryd.underlying40
 have HB := zq (Below.refl w.heap.size w)
 unfold Xai.f at h
 have H := h
 clear h
 refine yF H ?_ ?_ <;> clear H <;> rintro ⟨c2b0, c2b1, c2⟩ H
 ·clear c2
  obtain ⟨rfl, rfl, rfl⟩ := yp3 H
  go_enter Tryd.func38, Tryd.ntmps38
  go_wp2_with (first | ((with_reducible refine Xk (N := 1) rfl ?_); refine bxw 1 40 #[.int .i64 a0_0, .int .i64 a0_1] ?_; intro gb213 hg w3 hbox hb; have BK213 := zq (hbox); have GE213 := zq ((J12 : w.heap.size ≤ gb213)); replace HB := zq (Xd J0 hb); clear hb hbox hg) | ((with_reducible refine Xk (N := 2) rfl ?_); refine bxw 2 40 #[.int .i64 0, .int .i64 0] ?_; intro gb214 hg w4 hbox hb; have BK214 := zq (hbox); have GE214 := zq ((by rw [hg]; exact (Xf (zs1 GE213.out)) : w.heap.size ≤ gb214)); replace HB := zq (Xd (zs1 GE213.out) hb); have NB213_214 := zq ((J146 : gb213 ≠ gb214)); have NB214_213 := zq ((J147 : gb214 ≠ gb213)); replace BK213 := zq (Xh (g := gb213) (o := .cells #[.int .i64 a0_0, .int .i64 a0_1] 40 (0, 0)) (zk BK213.out) hb); clear hb hbox hg; have hnb5 := NB213_214.out; have hnc5 := NB214_213.out; obtain ⟨hcz6_0, hcz6_1, hfz6_0, hfz6_1⟩ := cz2 BK213.out; obtain ⟨hcz7_0, hcz7_1, hfz7_0, hfz7_1⟩ := cz2 BK214.out))
  refine bodyPost_ret (Xa1 rfl _ _ gb214 40 #[.int .i64 0, .int .i64 0] (0, 0) _ rfl J19 Tryd.underlying40 rfl J8) rfl ?_
  exact ⟨J2, J21⟩
 have H' := zq H
 clear H
 go_enter Tryd.func38, Tryd.ntmps38
 go_wp2_with (first | ((with_reducible refine Xk (N := 1) rfl ?_); refine bxw 1 40 #[.int .i64 a0_0, .int .i64 a0_1] ?_; intro gb213 hg w8 hbox hb; have BK213 := zq (hbox); have GE213 := zq ((J12 : w.heap.size ≤ gb213)); replace HB := zq (Xd J0 hb); clear hb hbox hg) | ((with_reducible refine Xk (N := 2) rfl ?_); refine bxw 2 40 #[.int .i64 0, .int .i64 0] ?_; intro gb214 hg w9 hbox hb; have BK214 := zq (hbox); have GE214 := zq ((by rw [hg]; exact (Xf (zs1 GE213.out)) : w.heap.size ≤ gb214)); replace HB := zq (Xd (zs1 GE213.out) hb); have NB213_214 := zq ((J146 : gb213 ≠ gb214)); have NB214_213 := zq ((J147 : gb214 ≠ gb213)); replace BK213 := zq (Xh (g := gb213) (o := .cells #[.int .i64 a0_0, .int .i64 a0_1] 40 (0, 0)) (zk BK213.out) hb); clear hb hbox hg; have hnb10 := NB213_214.out; have hnc10 := NB214_213.out; obtain ⟨hcz11_0, hcz11_1, hfz11_0, hfz11_1⟩ := cz2 BK213.out))
 go_loopg [] k (fun kq w' => ∃ (x214000_1 : Int) (x214001_1 : Int), Aside0 (Xai.l0 kq x214000_1 x214001_1 = some (r1, r2, r3)) ∧ Aside0 (kq ≤ k) ∧ Aside0 (w'.heap[gb213]? = some (.cells #[.int .i64 x214000_1, .int .i64 x214001_1] 40 (0, 0))) ∧ Aside0 (w'.heap[gb214]? = some (.cells #[.int .i64 0, .int .i64 0] 40 (0, 0))) ∧ Aside0 (Below w.heap.size w w'))
 case atStart => exact ⟨(a0_0), (a0_1), H', ⟨Nat.le_refl _⟩, ⟨by (with_reducible repeat (first | refine Xc ?_ _ | refine Xe ?_ | refine Xb ?_ _)); exact BK213.out⟩, ⟨by (with_reducible repeat (first | refine Xc ?_ _ | refine Xe ?_ | refine Xb ?_ _)); exact BK214.out⟩, ⟨J21⟩⟩
 case round =>
  clear H'
  try clear c2
  try clear c2b0
  try clear c2b1
  try clear hcz11_0
  try clear hcz11_1
  try clear hfz11_0
  try clear hfz11_1
  obtain ⟨x214000_1, x214001_1, HA, HK1, BK213, BK214, HB⟩ := hrel
  cases gk with
  | zero => exact absurd HA.out (by simp [Xai.l0])
  | succ k1 =>
   have H := HA.out
   clear HA
   simp only [Xai.l0] at H
   refine yE H ?_ ?_ <;> clear H <;> rintro ⟨c12b0, c12b1, c12⟩ H
   ·refine yD H ?_ ?_ <;> clear H <;> rintro c27b0 H
    ·obtain ⟨rfl, rfl, rfl⟩ := yp3 H
     have hnb28 := NB213_214.out
     have hnc28 := NB214_213.out
     obtain ⟨hcz29_0, hcz29_1, hfz29_0, hfz29_1⟩ := cz2 BK213.out
     obtain ⟨hcz30_0, hcz30_1, hfz30_0, hfz30_1⟩ := cz2 BK214.out
     go_wp2
     refine bodyPost_ret (Xa1 rfl _ _ gb214 40 #[.int .i64 0, .int .i64 0] (0, 0) _ rfl J19 Tryd.underlying40 rfl J8) rfl ?_
     exact ⟨J2, J21⟩
    ·refine yD H ?_ ?_ <;> clear H <;> rintro c31b0 H
     ·obtain ⟨rfl, rfl, rfl⟩ := yp3 H
      have hnb32 := NB213_214.out
      have hnc32 := NB214_213.out
      obtain ⟨hcz33_0, hcz33_1, hfz33_0, hfz33_1⟩ := cz2 BK213.out
      obtain ⟨hcz34_0, hcz34_1, hfz34_0, hfz34_1⟩ := cz2 BK214.out
      go_wp2
      refine bodyPost_ret (Xa1 rfl _ _ gb214 40 #[.int .i64 0, .int .i64 0] (0, 0) _ rfl J19 Tryd.underlying40 rfl J8) rfl ?_
      exact ⟨J2, J21⟩
     ·obtain ⟨rfl, rfl, rfl⟩ := yp3 H
      have hnb35 := NB213_214.out
      have hnc35 := NB214_213.out
      obtain ⟨hcz36_0, hcz36_1, hfz36_0, hfz36_1⟩ := cz2 BK213.out
      obtain ⟨hcz37_0, hcz37_1, hfz37_0, hfz37_1⟩ := cz2 BK214.out
      go_wp2
      refine bodyPost_ret (Xa1 rfl _ _ gb214 40 #[.int .i64 x214000_1, .int .i64 x214001_1] (0, 0) _ rfl J85 Tryd.underlying40 rfl J8) rfl ?_
      exact ⟨J2, J21⟩
   clear c12
   refine yD H ?_ ?_ <;> clear H <;> rintro c13b0 H
   ·have H' := zq H
    clear H
    have hnb14 := NB213_214.out
    have hnc14 := NB214_213.out
    obtain ⟨hcz15_0, hcz15_1, hfz15_0, hfz15_1⟩ := cz2 BK213.out
    go_wp2
    go_roundg k1
    case measure => have := HK1.out; omega
    case rel => exact ⟨(wrap64 (Int.tdiv x214000_1 10)), (wrap64 (x214001_1 + 1)), H', ⟨J86⟩, ⟨by (with_reducible repeat (first | refine Xc ?_ _ | refine Xe ?_ | refine Xb ?_ _)); refine Xj (cs := #[.int .i64 (wrap64 (Int.tdiv x214000_1 10)), .int .i64 x214001_1]) ?_ 1 _ rfl; (with_reducible repeat (first | refine Xc ?_ _ | refine Xe ?_ | refine Xb ?_ _)); refine Xj (cs := #[.int .i64 x214000_1, .int .i64 x214001_1]) ?_ 0 _ rfl; (with_reducible repeat (first | refine Xc ?_ _ | refine Xe ?_ | refine Xb ?_ _)); exact BK213.out⟩, ⟨by (with_reducible repeat (first | refine Xc ?_ _ | refine Xe ?_ | refine Xb ?_ _)); refine Xab ?_ NB214_213.out _; (with_reducible repeat (first | refine Xc ?_ _ | refine Xe ?_ | refine Xb ?_ _)); refine Xab ?_ NB214_213.out _; (with_reducible repeat (first | refine Xc ?_ _ | refine Xe ?_ | refine Xb ?_ _)); exact BK214.out⟩, ⟨J21⟩⟩
   refine yD H ?_ ?_ <;> clear H <;> rintro c16b0 H
   ·obtain ⟨rfl, rfl, rfl⟩ := yp3 H
    have hnb17 := NB213_214.out
    have hnc17 := NB214_213.out
    obtain ⟨hcz18_0, hcz18_1, hfz18_0, hfz18_1⟩ := cz2 BK213.out
    obtain ⟨hcz19_0, hcz19_1, hfz19_0, hfz19_1⟩ := cz2 BK214.out
    go_wp2
    refine bodyPost_ret (Xa1 rfl _ _ gb214 40 #[.int .i64 0, .int .i64 0] (0, 0) _ rfl J19 Tryd.underlying40 rfl J8) rfl ?_
    exact ⟨J2, J21⟩
   refine yd H ?_ ?_ <;> clear H <;> rintro c20b0 H
   ·obtain ⟨rfl, rfl, rfl⟩ := yp3 H
    have hnb24 := NB213_214.out
    have hnc24 := NB214_213.out
    obtain ⟨hcz25_0, hcz25_1, hfz25_0, hfz25_1⟩ := cz2 BK213.out
    obtain ⟨hcz26_0, hcz26_1, hfz26_0, hfz26_1⟩ := cz2 BK214.out
    go_wp2
    refine bodyPost_ret (Xa1 rfl _ _ gb214 40 #[.int .i64 x214000_1, .int .i64 x214001_1] (0, 0) _ rfl J85 Tryd.underlying40 rfl J8) rfl ?_
    exact ⟨J2, J21⟩
   obtain ⟨rfl, rfl, rfl⟩ := yp3 H
   have hnb21 := NB213_214.out
   have hnc21 := NB214_213.out
   obtain ⟨hcz22_0, hcz22_1, hfz22_0, hfz22_1⟩ := cz2 BK213.out
   obtain ⟨hcz23_0, hcz23_1, hfz23_0, hfz23_1⟩ := cz2 BK214.out
   go_wp2
   refine bodyPost_ret (Xa1 rfl _ _ gb214 40 #[.int .i64 0, .int .i64 0] (0, 0) _ rfl J19 Tryd.underlying40 rfl J8) rfl ?_
   exact ⟨J2, J21⟩
def Xae.f (k : Nat) (a0_0 : Int) (a0_1 : Int) : Option (Bool) := (Xai.f k a0_0 a0_1).bind fun bt216 => (if bt216.2.2 = true then (some (bt216.1 == a0_0 && (bt216.2.1 == a0_1))) else (some false))
theorem Xae.mono : ∀ a0 a1 k, LeO (Xae.f k a0 a1) (Xae.f (k + 1) a0 a1) := by
 intro a0 a1 k
 unfold Xae.f
 have im0 := @Xai.mono
 exact mz3
set_option maxHeartbeats 8000000 in
set_option maxRecDepth 100000 in
theorem Xae.calls (k : Nat) (a0_0 : Int) (a0_1 : Int) (r : Bool) (w : World) (h : Xae.f k a0_0 a0_1 = some r) :
  Calls Tryd.prog 28 #[.agg #[.int .i64 a0_0, .int .i64 a0_1]] w fun e w' => e = .returned (.bool r) ∧ Below w.heap.size w w' := by
 have hu40 := Tryd.underlying40
 have HB := zq (Below.refl w.heap.size w)
 unfold Xae.f at h
 have H := h
 clear h
 refine yv H ?_; clear H; rintro ⟨t216, t217, t218⟩ A2 H
 dsimp only at H
 refine yC H ?_ ?_ <;> clear H <;> rintro rfl H
 ·obtain rfl := yo H
  go_enter Tryd.func28, Tryd.ntmps28
  go_wp2_with (first | ((with_reducible refine Xk (N := 1) rfl ?_); refine bxw 1 40 #[.int .i64 a0_0, .int .i64 a0_1] ?_; intro gb215 hg w4 hbox hb; have BK215 := zq (hbox); have GE215 := zq ((J12 : w.heap.size ≤ gb215)); replace HB := zq (Xd J0 hb); clear hb hbox hg; obtain ⟨hcz5_0, hcz5_1, hfz5_0, hfz5_1⟩ := cz2 BK215.out) | ((with_reducible refine Xg (f := 38) rfl ?_); refine Xt (some 7) rfl rfl Tryd.func38 J8 rfl #[.agg #[.int .i64 a0_0, .int .i64 a0_1]] rfl J1 ?_; (with_reducible refine (Xai.calls k a0_0 a0_1 t216 t217 true _ A2.out).mono ?_); rintro e w6 ⟨rfl, hb⟩; refine ⟨_, rfl, ?_⟩; replace BK215 := zq (Xh (g := gb215) (o := .cells #[.int .i64 a0_0, .int .i64 a0_1] 40 (0, 0)) (zk BK215.out) hb); replace HB := zq (Xd (zs1 GE215.out) hb); (try clear hb)) | ((with_reducible refine Xk (N := 3) rfl ?_); refine bxw 3 40 #[.int .i64 0, .int .i64 0] ?_; intro gb219 hg w7 hbox hb; have BK219 := zq (hbox); have GE219 := zq ((by rw [hg]; exact (Xf (zs1 GE215.out)) : w.heap.size ≤ gb219)); replace HB := zq (Xd (zs1 GE215.out) hb); have NB215_219 := zq ((J148 : gb215 ≠ gb219)); have NB219_215 := zq ((J149 : gb219 ≠ gb215)); replace BK215 := zq (Xh (g := gb215) (o := .cells #[.int .i64 a0_0, .int .i64 a0_1] 40 (0, 0)) (zk BK215.out) hb); clear hb hbox hg; have hnb8 := NB219_215.out; have hnc8 := NB215_219.out; obtain ⟨hcz9_0, hcz9_1, hfz9_0, hfz9_1⟩ := cz2 BK219.out; obtain ⟨hcz10_0, hcz10_1, hfz10_0, hfz10_1⟩ := cz2 BK215.out))
  go_ret
  exact ⟨J2, J122⟩
 obtain rfl := yo H
 go_enter Tryd.func28, Tryd.ntmps28
 go_wp2_with (first | ((with_reducible refine Xk (N := 1) rfl ?_); refine bxw 1 40 #[.int .i64 a0_0, .int .i64 a0_1] ?_; intro gb215 hg w11 hbox hb; have BK215 := zq (hbox); have GE215 := zq ((J12 : w.heap.size ≤ gb215)); replace HB := zq (Xd J0 hb); clear hb hbox hg; obtain ⟨hcz12_0, hcz12_1, hfz12_0, hfz12_1⟩ := cz2 BK215.out) | ((with_reducible refine Xg (f := 38) rfl ?_); refine Xt (some 7) rfl rfl Tryd.func38 J8 rfl #[.agg #[.int .i64 a0_0, .int .i64 a0_1]] rfl J1 ?_; (with_reducible refine (Xai.calls k a0_0 a0_1 t216 t217 false _ A2.out).mono ?_); rintro e w13 ⟨rfl, hb⟩; refine ⟨_, rfl, ?_⟩; replace BK215 := zq (Xh (g := gb215) (o := .cells #[.int .i64 a0_0, .int .i64 a0_1] 40 (0, 0)) (zk BK215.out) hb); replace HB := zq (Xd (zs1 GE215.out) hb); (try clear hb)) | ((with_reducible refine Xk (N := 3) rfl ?_); refine bxw 3 40 #[.int .i64 0, .int .i64 0] ?_; intro gb219 hg w14 hbox hb; have BK219 := zq (hbox); have GE219 := zq ((by rw [hg]; exact (Xf (zs1 GE215.out)) : w.heap.size ≤ gb219)); replace HB := zq (Xd (zs1 GE215.out) hb); have NB215_219 := zq ((J148 : gb215 ≠ gb219)); have NB219_215 := zq ((J149 : gb219 ≠ gb215)); clear hb hbox hg; have hnb15 := NB219_215.out; have hnc15 := NB215_219.out; obtain ⟨hcz16_0, hcz16_1, hfz16_0, hfz16_1⟩ := cz2 BK219.out))
 go_ret
 exact ⟨J2, J122⟩
def Xb0.f (a0 : Int) : Option (Bool) := if a0 < 0 then (some true) else (some (decide (a0 > 1048576)))
set_option maxHeartbeats 8000000 in
set_option maxRecDepth 100000 in
theorem Xb0.calls (a0 : Int) (r : Bool) (w : World) (h : Xb0.f a0 = some r) :
  Calls Tryd.prog 64 #[.int .i64 a0] w fun e w' => e = .returned (.bool r) ∧ Drawn0 w w' := by
 unfold Xb0.f at h
 have H := h
 clear h
 refine yd H ?_ ?_ <;> clear H <;> rintro c2b0 H
 ·obtain rfl := yo H
  go_enter Tryd.func64, Tryd.ntmps64
  go_wp2
  go_ret
  exact ⟨J4, J5⟩
 obtain rfl := yo H
 go_enter Tryd.func64, Tryd.ntmps64
 go_wp2
 go_ret
 exact ⟨J4, J5⟩
theorem Xc2 {P : Program} {ops : Array Oper} {Q : Exit → Act → World → Prop} {rest : List Oper} {oi : Oper} {a : Act} {w : World} (N : Option Tmp) (hd : oi.dst = N) (hg : oi.guard = none) {f : FuncId} {fn : Func} {as_ : Array Operand} {ts : Array TypeId} (hf : P.funcs[f]? = some fn) (hname : (fn.name == "runtime.NumGoroutine") = false) (hb : fn.body.isSome = true) (args : Array Value) (x : Operand)
  (hop : oi.op = .call { callee := .value x, args := as_, argTypes := ts }) (hx : a.eval x = .func (.func f) #[] #[]) (hargs : as_.map a.eval = args)
  (h : Calls P f args w fun e w' => ∃ v, e = .returned v ∧ wpList P ops Q rest (a.put N v) w') : wpList P ops Q (oi :: rest) a w := by
 refine wpList_plain hg fun K hK => ?_
 have he := enters_ hf hname hb args w
 have hrun : (execOp a.eval oi).run P w = .ok (.enter f args) w := by
  unfold execOp
  simp [hop, hx, resolve, Deferred.ofValue, invoke, hargs, he]
 unfold Oper.wp
 rw [hrun, Oper.upon_enter]
 refine h.mono fun e w'' hh => ?_
 obtain ⟨v, rfl, hk⟩ := hh
 subst hd
 exact hK _ _ hk
def Xq.l0 : Nat → List Int → Int → Int → Option (Int)
 | 0, _, _, _ => none
 | k + 1, x0, x7, x8 => if x8 < x7 then (if 0 ≤ x8 then (if x8 < (x0.length : Int) then ((Xb0.f (rd x0 x8)).bind fun t221 => (if t221 = true then (some x8) else (Xq.l0 k x0 x7 (wrap64 (x8 + 1))))) else (none)) else (none)) else (some (-1))
def Xq.f (k : Nat) (l0 : List Int) : Option (Int) := Xq.l0 k l0 (l0.length : Int) 0
theorem Xq.mono_l : ∀ k, (∀ y0 y1 y2, LeO (Xq.l0 k y0 y1 y2) (Xq.l0 (k + 1) y0 y1 y2))
 | 0 => fun _ _ _ r h => by simp [Xq.l0] at h
 | k + 1 => by
  have ih0 := Xq.mono_l k
  ·intro y0 y1 y2
   unfold Xq.l0
   exact mz0
theorem Xq.mono : ∀ a0 k, LeO (Xq.f k a0) (Xq.f (k + 1) a0) := by
 intro a0 k
 have ih0 := Xq.mono_l k
 unfold Xq.f
 exact mz0
set_option maxHeartbeats 8000000 in
set_option maxRecDepth 100000 in
theorem Xq.calls (k : Nat) (A0 : Option Addr) (c0 : Nat) (l0 : List Int) (r : Int) (w : World) (hr0 : Kd.C (Kd.int .i64) w A0 l0.length l0) (hc0 : l0.length ≤ c0) (h : Xq.f k l0 = some r) :
  Calls Tryd.prog 67 #[.slice A0 l0.length c0, .func (.func 64) #[] #[]] w fun e w' => e = .returned (.int .i64 r) ∧ Drawn0 w w' := by
 have HR0 := zq hr0
 have HC0 := zq hc0
 clear hr0 hc0
 unfold Xq.f at h
 have H := h
 clear h
 have H' := zq H
 clear H
 go_enter Tryd.func67, Tryd.ntmps67
 go_wp2
 go_loopg [8] k (fun kq v8 w' => ∃ (x8_1 : Int), v8 = .int .i64 x8_1 ∧ Aside0 (Xq.l0 kq l0 (l0.length : Int) x8_1 = some r) ∧ Aside0 (kq ≤ k) ∧ Drawn0 w w')
 case atStart => exact ⟨(0), J4, H', ⟨Nat.le_refl _⟩, J5⟩
 case round =>
  clear H'
  obtain ⟨x8_1, rfl, HA, HK1, ⟨m1, rfl⟩⟩ := hrel
  cases gk with
  | zero => exact absurd HA.out (by simp [Xq.l0])
  | succ k1 =>
   have H := HA.out
   clear HA
   simp only [Xq.l0] at H
   refine yd H ?_ ?_ <;> clear H <;> rintro c2b0 H
   ·obtain rfl := yo H
    go_wp2
    go_ret
    exact ⟨J4, J5⟩
   refine yj H ?_; clear H; intro c3b0 H
   refine yj H ?_; clear H; intro c4b0 H
   refine yv H ?_; clear H; rintro t221 A5 H
   refine yC H ?_ ?_ <;> clear H <;> rintro rfl H
   ·obtain rfl := yo H
    have p220 : 0 ≤ (x8_1 : Int) := of_decide_eq_true J3
    have q220 : x8_1 < (l0.length : Int) := of_decide_eq_true J3
    obtain ⟨ad220, e220, hx220_0⟩ := Kd.at_int HR0.out x8_1 p220 q220
    cases e220
    replace p220 := eq_true p220
    replace q220 := eq_true q220
    go_wp2_with (first | ((with_reducible refine Xk (N := 16) rfl ?_); refine Xc2 (some 16) rfl rfl Tryd.func64 J8 rfl #[.int .i64 (rd l0 x8_1)] (.tmp 11) rfl rfl J1 ?_; (with_reducible refine (Xb0.calls (rd l0 x8_1) true _ A5.out).mono ?_); rintro e w' ⟨rfl, ⟨nd, rfl⟩⟩; refine ⟨_, rfl, ?_⟩))
    go_ret
    exact ⟨J4, J5⟩
   have H' := zq H
   clear H
   have p220 : 0 ≤ (x8_1 : Int) := of_decide_eq_true J3
   have q220 : x8_1 < (l0.length : Int) := of_decide_eq_true J3
   obtain ⟨ad220, e220, hx220_0⟩ := Kd.at_int HR0.out x8_1 p220 q220
   cases e220
   replace p220 := eq_true p220
   replace q220 := eq_true q220
   go_wp2_with (first | ((with_reducible refine Xk (N := 16) rfl ?_); refine Xc2 (some 16) rfl rfl Tryd.func64 J8 rfl #[.int .i64 (rd l0 x8_1)] (.tmp 11) rfl rfl J1 ?_; (with_reducible refine (Xb0.calls (rd l0 x8_1) false _ A5.out).mono ?_); rintro e w' ⟨rfl, ⟨nd, rfl⟩⟩; refine ⟨_, rfl, ?_⟩))
   go_roundg k1
   case measure => have := HK1.out; omega
   case rel => exact ⟨(wrap64 (x8_1 + 1)), J4, H', ⟨J86⟩, J5⟩
def Xao.f (k : Nat) (l0 : List Int) : Option (Bool) := (Xq.f k l0).bind fun t222 => (some (decide (t222 ≥ 0)))
theorem Xao.mono : ∀ a0 k, LeO (Xao.f k a0) (Xao.f (k + 1) a0) := by
 intro a0 k
 unfold Xao.f
 have im0 := @Xq.mono
 exact mz3
set_option maxHeartbeats 8000000 in
set_option maxRecDepth 100000 in
theorem Xao.calls (k : Nat) (A0 : Option Addr) (c0 : Nat) (l0 : List Int) (r : Bool) (w : World) (hr0 : Kd.C (Kd.int .i64) w A0 l0.length l0) (hc0 : l0.length ≤ c0) (h : Xao.f k l0 = some r) :
  Calls Tryd.prog 46 #[.slice A0 l0.length c0, .func (.func 64) #[] #[]] w fun e w' => e = .returned (.bool r) ∧ Drawn0 w w' := by
 have HR0 := zq hr0
 have HC0 := zq hc0
 clear hr0 hc0
 unfold Xao.f at h
 have H := h
 clear h
 refine yv H ?_; clear H; rintro t222 A2 H
 obtain rfl := yo H
 go_enter Tryd.func46, Tryd.ntmps46
 go_wp2_with (first | ((with_reducible refine Xg (f := 67) rfl ?_); refine Xt (some 7) rfl rfl Tryd.func67 J8 rfl #[.slice A0 l0.length c0, .func (.func 64) #[] #[]] rfl J1 ?_; (with_reducible refine (Xq.calls k _ _ l0 t222 _ ?side1 ?side2 A2.out).mono ?_); (case side1 => exact zc HR0.out); (case side2 => exact HC0.out); rintro e w' ⟨rfl, ⟨nd, rfl⟩⟩; refine ⟨_, rfl, ?_⟩))
 go_ret
 exact ⟨J4, J5⟩
def Xw.l0 : Nat → List Int → Int → Int → Int → Option (Int)
 | 0, _, _, _, _ => none
 | k + 1, x0, x1, x7, x8 => if x8 < x7 then (if 0 ≤ x8 then (if x8 < (x0.length : Int) then (if x1 = (rd x0 x8) then (some x8) else (Xw.l0 k x0 x1 x7 (wrap64 (x8 + 1)))) else (none)) else (none)) else (some (-1))
def Xw.f (k : Nat) (l0 : List Int) (a1 : Int) : Option (Int) := Xw.l0 k l0 a1 (l0.length : Int) 0
theorem Xw.mono_l : ∀ k, (∀ y0 y1 y2 y3, LeO (Xw.l0 k y0 y1 y2 y3) (Xw.l0 (k + 1) y0 y1 y2 y3))
 | 0 => fun _ _ _ _ r h => by simp [Xw.l0] at h
 | k + 1 => by
  have ih0 := Xw.mono_l k
  ·intro y0 y1 y2 y3
   unfold Xw.l0
   exact mz0
theorem Xw.mono : ∀ a0 a1 k, LeO (Xw.f k a0 a1) (Xw.f (k + 1) a0 a1) := by
 intro a0 a1 k
 have ih0 := Xw.mono_l k
 unfold Xw.f
 exact mz0
set_option maxHeartbeats 8000000 in
set_option maxRecDepth 100000 in
theorem Xw.calls (k : Nat) (A0 : Option Addr) (c0 : Nat) (l0 : List Int) (a1 : Int) (r : Int) (w : World) (hr0 : Kd.C (Kd.int .i64) w A0 l0.length l0) (hc0 : l0.length ≤ c0) (h : Xw.f k l0 a1 = some r) :
  Calls Tryd.prog 80 #[.slice A0 l0.length c0, .int .i64 a1] w fun e w' => e = .returned (.int .i64 r) ∧ Drawn0 w w' := by
 have HR0 := zq hr0
 have HC0 := zq hc0
 clear hr0 hc0
 unfold Xw.f at h
 have H := h
 clear h
 have H' := zq H
 clear H
 go_enter Tryd.func80, Tryd.ntmps80
 go_wp2
 go_loopg [8] k (fun kq v8 w' => ∃ (x8_1 : Int), v8 = .int .i64 x8_1 ∧ Aside0 (Xw.l0 kq l0 a1 (l0.length : Int) x8_1 = some r) ∧ Aside0 (kq ≤ k) ∧ Drawn0 w w')
 case atStart => exact ⟨(0), J4, H', ⟨Nat.le_refl _⟩, J5⟩
 case round =>
  clear H'
  obtain ⟨x8_1, rfl, HA, HK1, ⟨m1, rfl⟩⟩ := hrel
  cases gk with
  | zero => exact absurd HA.out (by simp [Xw.l0])
  | succ k1 =>
   have H := HA.out
   clear HA
   simp only [Xw.l0] at H
   refine yd H ?_ ?_ <;> clear H <;> rintro c3b0 H
   ·obtain rfl := yo H
    go_wp2
    go_ret
    exact ⟨J4, J5⟩
   refine yj H ?_; clear H; intro c4b0 H
   refine yj H ?_; clear H; intro c5b0 H
   refine yF H ?_ ?_ <;> clear H <;> rintro ⟨c6b0, c6b1, c6⟩ H
   ·clear c6
    obtain rfl := yo H
    have p223 : 0 ≤ (x8_1 : Int) := of_decide_eq_true J3
    have q223 : x8_1 < (l0.length : Int) := of_decide_eq_true J3
    obtain ⟨ad223, e223, hx223_0⟩ := Kd.at_int HR0.out x8_1 p223 q223
    cases e223
    replace p223 := eq_true p223
    replace q223 := eq_true q223
    go_wp2
    go_ret
    exact ⟨J4, J5⟩
   have H' := zq H
   clear H
   have p223 : 0 ≤ (x8_1 : Int) := of_decide_eq_true J3
   have q223 : x8_1 < (l0.length : Int) := of_decide_eq_true J3
   obtain ⟨ad223, e223, hx223_0⟩ := Kd.at_int HR0.out x8_1 p223 q223
   cases e223
   replace p223 := eq_true p223
   replace q223 := eq_true q223
   go_wp2
   go_roundg k1
   case measure => have := HK1.out; omega
   case rel => exact ⟨(wrap64 (x8_1 + 1)), J4, H', ⟨J86⟩, J5⟩
def Xaq.f (k : Nat) (l0 : List Int) (a1 : Int) : Option (Bool) := (Xw.f k l0 a1).bind fun t224 => (some (decide (t224 ≥ 0)))
theorem Xaq.mono : ∀ a0 a1 k, LeO (Xaq.f k a0 a1) (Xaq.f (k + 1) a0 a1) := by
 intro a0 a1 k
 unfold Xaq.f
 have im0 := @Xw.mono
 exact mz3
set_option maxHeartbeats 8000000 in
set_option maxRecDepth 100000 in
theorem Xaq.calls (k : Nat) (A0 : Option Addr) (c0 : Nat) (l0 : List Int) (a1 : Int) (r : Bool) (w : World) (hr0 : Kd.C (Kd.int .i64) w A0 l0.length l0) (hc0 : l0.length ≤ c0) (h : Xaq.f k l0 a1 = some r) :
  Calls Tryd.prog 65 #[.slice A0 l0.length c0, .int .i64 a1] w fun e w' => e = .returned (.bool r) ∧ Drawn0 w w' := by
 have HR0 := zq hr0
 have HC0 := zq hc0
 clear hr0 hc0
 unfold Xaq.f at h
 have H := h
 clear h
 refine yv H ?_; clear H; rintro t224 A3 H
 obtain rfl := yo H
 go_enter Tryd.func65, Tryd.ntmps65
 go_wp2_with (first | ((with_reducible refine Xg (f := 80) rfl ?_); refine Xt (some 7) rfl rfl Tryd.func80 J8 rfl #[.slice A0 l0.length c0, .int .i64 a1] rfl J1 ?_; (with_reducible refine (Xw.calls k _ _ l0 a1 t224 _ ?side1 ?side2 A3.out).mono ?_); (case side1 => exact zc HR0.out); (case side2 => exact HC0.out); rintro e w' ⟨rfl, ⟨nd, rfl⟩⟩; refine ⟨_, rfl, ?_⟩))
 go_ret
 exact ⟨J4, J5⟩
mutual
def X3.j0 : Nat → List Int → Bool → Option (Int × Bool)
 | 0, _, _ => none
 | k + 1, x0, x8 => if x8 = true then (some (0, false)) else ((Xaq.f k x0 0).bind fun t226 => (if t226 = true then (some (0, true)) else (X3.l0 k 1 x0 (x0.length : Int) 0)))
def X3.l0 : Nat → Int → List Int → Int → Int → Option (Int × Bool)
 | 0, _, _, _, _ => none
 | k + 1, x5, x20, x21, x22 => if x22 < x21 then (if 0 ≤ x22 then (if x22 < (x20.length : Int) then ((Xb0.f (wrap64 (x5 * (rd x20 x22)))).bind fun t228 => (if t228 = true then (some (0, false)) else (X3.l0 k (wrap64 (x5 * (rd x20 x22))) x20 x21 (wrap64 (x22 + 1))))) else (none)) else (none)) else (some (x5, true))
end
def X3.f (k : Nat) (l0 : List Int) : Option (Int × Bool) := if (l0.length : Int) > 16 then (X3.j0 k l0 true) else ((Xao.f k l0).bind fun t225 => (X3.j0 k l0 t225))
theorem X3.mono_l : ∀ k, (∀ y0 y1, LeO (X3.j0 k y0 y1) (X3.j0 (k + 1) y0 y1)) ∧ (∀ y0 y1 y2 y3, LeO (X3.l0 k y0 y1 y2 y3) (X3.l0 (k + 1) y0 y1 y2 y3))
 | 0 => ⟨fun _ _ r h => by simp [X3.j0] at h, fun _ _ _ _ r h => by simp [X3.l0] at h⟩
 | k + 1 => by
  obtain ⟨ih0, ih1⟩ := X3.mono_l k
  refine ⟨?_, ?_⟩
  ·intro y0 y1
   unfold X3.j0
   have im0 := @Xao.mono
   have im1 := @Xaq.mono
   exact mz3
  ·intro y0 y1 y2 y3
   unfold X3.l0
   have im0 := @Xao.mono
   have im1 := @Xaq.mono
   exact mz3
theorem X3.mono : ∀ a0 k, LeO (X3.f k a0) (X3.f (k + 1) a0) := by
 intro a0 k
 obtain ⟨ih0, ih1⟩ := X3.mono_l k
 unfold X3.f
 have im0 := @Xao.mono
 have im1 := @Xaq.mono
 exact mz3
set_option maxHeartbeats 8000000 in
set_option maxRecDepth 100000 in
theorem X3.calls (k : Nat) (A0 : Option Addr) (c0 : Nat) (l0 : List Int) (r1 : Int) (r2 : Bool) (w : World) (hr0 : Kd.C (Kd.int .i64) w A0 l0.length l0) (hc0 : l0.length ≤ c0) (h : X3.f k l0 = some (r1, r2)) :
  Calls Tryd.prog 40 #[.slice A0 l0.length c0] w fun e w' => e = .returned (.tuple #[.int .i64 r1, .bool r2]) ∧ Drawn0 w w' := by
 have HR0 := zq hr0
 have HC0 := zq hc0
 clear hr0 hc0
 unfold X3.f at h
 have H := h
 clear h
 have HC2 := zq H
 clear H
 go_enter Tryd.func40, Tryd.ntmps40
 go_upto_region 2 with (fail)
 go_cut [8] (fun v8 wc => ∃ (kq : Nat) (x8_1 : Bool), v8 = .bool x8_1 ∧ Aside0 (X3.j0 kq l0 x8_1 = some (r1, r2)) ∧ Aside0 (kq ≤ k) ∧ Drawn0 w wc)
 case first =>
  have H := HC2.out
  clear HC2
  refine yu H ?_ ?_ <;> clear H <;> rintro c3 H
  ·have c3b0 : decide (16 < (l0.length : Int)) = true := decide_eq_true c3
   have c3b1 : decide (16 < l0.length) = true := decide_eq_true J35
   clear c3
   (first | rw [c3b0] | (simp only [Xbd, Xbh]; rw [c3b0]) | skip)
   have H' := zq H
   clear H
   go_wp2
   go_meet
   case rel => exact ⟨_, (true), J4, H', ⟨J31⟩, J5⟩
  have c3b0 := decide_eq_false c3
  have c3b1 : decide (16 < l0.length) = false := decide_eq_false J35
  clear c3
  (first | rw [c3b0] | (simp only [Xbd, Xbh]; rw [c3b0]) | skip)
  refine yv H ?_; clear H; rintro t225 A4 H
  have H' := zq H
  clear H
  go_wp2_with (first | (go_at_call 46; (with_reducible refine (Xao.calls k _ _ l0 t225 _ ?side1 ?side2 A4.out).mono ?_); (case side1 => exact zc HR0.out); (case side2 => exact HC0.out); rintro e w' ⟨rfl, ⟨nd, rfl⟩⟩))
  go_meet
  case rel => exact ⟨_, (t225), J4, H', ⟨J31⟩, J5⟩
 case rest =>
  clear HC2
  obtain ⟨kq, x8_1, rfl, HA, HJ1, ⟨mc1, rfl⟩⟩ := hcut
  cases kq with
  | zero => exact absurd HA.out (by simp [X3.j0])
  | succ kj1 =>
   have H := HA.out
   clear HA
   simp only [X3.j0] at H
   refine yC H ?_ ?_ <;> clear H <;> rintro rfl H
   ·obtain ⟨rfl, rfl⟩ := yp2 H
    go_wp2
    go_ret2
    exact ⟨J4, J5⟩
   refine yv H ?_; clear H; rintro t226 A6 H
   refine yC H ?_ ?_ <;> clear H <;> rintro rfl H
   ·obtain ⟨rfl, rfl⟩ := yp2 H
    go_wp2_with (first | ((with_reducible refine Xg (f := 65) rfl ?_); refine Xt (some 19) rfl rfl Tryd.func65 J8 rfl #[.slice A0 l0.length c0, .int .i64 0] rfl J1 ?_; (with_reducible refine (Xaq.calls kj1 _ _ l0 0 true _ ?side1 ?side2 A6.out).mono ?_); (case side1 => exact zc HR0.out); (case side2 => exact HC0.out); rintro e w' ⟨rfl, ⟨nd, rfl⟩⟩; refine ⟨_, rfl, ?_⟩))
    go_ret2
    exact ⟨J4, J5⟩
   have H' := zq H
   clear H
   go_wp2_with (first | ((with_reducible refine Xg (f := 65) rfl ?_); refine Xt (some 19) rfl rfl Tryd.func65 J8 rfl #[.slice A0 l0.length c0, .int .i64 0] rfl J1 ?_; (with_reducible refine (Xaq.calls kj1 _ _ l0 0 false _ ?side1 ?side2 A6.out).mono ?_); (case side1 => exact zc HR0.out); (case side2 => exact HC0.out); rintro e w' ⟨rfl, ⟨nd, rfl⟩⟩; refine ⟨_, rfl, ?_⟩))
   go_loopg [5, 22] kj1 (fun kq v5 v22 w' => ∃ (x5_2 : Int) (x22_2 : Int), v5 = .int .i64 x5_2 ∧ v22 = .int .i64 x22_2 ∧ Aside0 (X3.l0 kq x5_2 l0 (l0.length : Int) x22_2 = some (r1, r2)) ∧ Aside0 (kq ≤ kj1) ∧ Drawn0 w w')
   case atStart => exact ⟨(1), (0), J4, J4, H', ⟨Nat.le_refl _⟩, J5⟩
   case round =>
    clear H'
    obtain ⟨x5_2, x22_2, rfl, rfl, HA, HK2, ⟨m2, rfl⟩⟩ := hrel
    cases gk with
    | zero => exact absurd HA.out (by simp [X3.l0])
    | succ k2 =>
     have H := HA.out
     clear HA
     simp only [X3.l0] at H
     refine yd H ?_ ?_ <;> clear H <;> rintro c8b0 H
     ·obtain ⟨rfl, rfl⟩ := yp2 H
      go_wp2
      go_ret2
      exact ⟨J4, J5⟩
     refine yj H ?_; clear H; intro c9b0 H
     refine yj H ?_; clear H; intro c10b0 H
     refine yv H ?_; clear H; rintro t228 A11 H
     refine yC H ?_ ?_ <;> clear H <;> rintro rfl H
     ·obtain ⟨rfl, rfl⟩ := yp2 H
      have p227 : 0 ≤ (x22_2 : Int) := of_decide_eq_true J3
      have q227 : x22_2 < (l0.length : Int) := of_decide_eq_true J3
      obtain ⟨ad227, e227, hx227_0⟩ := Kd.at_int HR0.out x22_2 p227 q227
      cases e227
      replace p227 := eq_true p227
      replace q227 := eq_true q227
      go_wp2_with (first | ((with_reducible refine Xk (N := 31) rfl ?_); refine Xc2 (some 31) rfl rfl Tryd.func64 J8 rfl #[.int .i64 (wrap64 (x5_2 * (rd l0 x22_2)))] (.tmp 29) rfl rfl J1 ?_; (with_reducible refine (Xb0.calls (wrap64 (x5_2 * (rd l0 x22_2))) true _ A11.out).mono ?_); rintro e w' ⟨rfl, ⟨nd, rfl⟩⟩; refine ⟨_, rfl, ?_⟩))
      go_ret2
      exact ⟨J4, J5⟩
     have H' := zq H
     clear H
     have p227 : 0 ≤ (x22_2 : Int) := of_decide_eq_true J3
     have q227 : x22_2 < (l0.length : Int) := of_decide_eq_true J3
     obtain ⟨ad227, e227, hx227_0⟩ := Kd.at_int HR0.out x22_2 p227 q227
     cases e227
     replace p227 := eq_true p227
     replace q227 := eq_true q227
     go_wp2_with (first | ((with_reducible refine Xk (N := 31) rfl ?_); refine Xc2 (some 31) rfl rfl Tryd.func64 J8 rfl #[.int .i64 (wrap64 (x5_2 * (rd l0 x22_2)))] (.tmp 29) rfl rfl J1 ?_; (with_reducible refine (Xb0.calls (wrap64 (x5_2 * (rd l0 x22_2))) false _ A11.out).mono ?_); rintro e w' ⟨rfl, ⟨nd, rfl⟩⟩; refine ⟨_, rfl, ?_⟩))
     go_roundg k2
     case measure => have := HJ1.out; have := HK2.out; omega
     case rel => exact ⟨(wrap64 (x5_2 * (rd l0 x22_2))), (wrap64 (x22_2 + 1)), J4, J4, H', ⟨J157⟩, J5⟩
end Go.Proofs.YtfjhiiaahbjaiaaDoor.HSystemFirst
