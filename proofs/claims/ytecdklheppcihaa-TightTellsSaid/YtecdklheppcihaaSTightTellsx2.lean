/- Words and walks, shortened by a program: what this claim's functions answer, and that other memory stays. -/
import Derived.Test.YtecdklheppcihaaSTightTellsx0
import Derived.Test.YtecdklheppcihaaSTightTellsx1
namespace Go.Proofs.Ytecdklheppcihaa.HTightTells
open Go.RowKit Go.Proofs.YtecdklheppcihaaW.PrintWords Go.Proofs.YtecdklheppcihaaW.PrintLast Go.Proofs.YtecdklheppcihaaW.PrintMore
attribute [local go_sem] Xbp Xbn Xbu Xbt Xbg Xbf Xbo Xbm
set_option linter.unusedVariables false
set_option linter.unusedSimpArgs false
attribute [local go_sem high] eqA38
def X6.l0 : Nat → Int → Int → Option (Int × Int × Bool)
 | 0, _, _ => none
 | k + 1, x102000, x102001 => if (Int.tmod x102000 10) = 0 then (if x102001 ≤ 32767 then (X6.l0 k (wrap64 (Int.tdiv x102000 10)) (wrap64 (x102001 + 1))) else (if x102001 < (-32768) then (some (0, 0, false)) else (if x102001 > 32767 then (some (0, 0, false)) else (some (x102000, x102001, true))))) else (if x102001 < (-32768) then (some (0, 0, false)) else (if x102001 > 32767 then (some (0, 0, false)) else (some (x102000, x102001, true))))
def X6.f (k : Nat) (a0_0 : Int) (a0_1 : Int) : Option (Int × Int × Bool) := if a0_0 = 0 then (some (0, 0, true)) else (X6.l0 k a0_0 a0_1)
theorem X6.mono_l : ∀ k, (∀ y0 y1, LeO (X6.l0 k y0 y1) (X6.l0 (k + 1) y0 y1))
 | 0 => fun _ _ r h => by simp [X6.l0] at h
 | k + 1 => by
  have ih0 := X6.mono_l k
  ·intro y0 y1
   unfold X6.l0
   exact mz0
theorem X6.mono : ∀ a0 a1 k, LeO (X6.f k a0 a1) (X6.f (k + 1) a0 a1) := by
 intro a0 a1 k
 have ih0 := X6.mono_l k
 unfold X6.f
 exact mz0
set_option maxHeartbeats 8000000 in
set_option maxRecDepth 100000 in
theorem X6.calls (k : Nat) (a0_0 : Int) (a0_1 : Int) (r1 : Int) (r2 : Int) (r3 : Bool) (w : World) (h : X6.f k a0_0 a0_1 = some (r1, r2, r3)) :
  Calls Try.prog 43 #[.agg #[.int .i64 a0_0, .int .i64 a0_1]] w fun e w' => e = .returned (.tuple #[.agg #[.int .i64 r1, .int .i64 r2], .bool r3]) ∧ Below w.heap.size w w' := by
 have hu38 := Try.underlying38
 have HB := zq (Below.refl w.heap.size w)
 unfold X6.f at h
 have H := h
 clear h
 refine yF H ?_ ?_ <;> clear H <;> rintro ⟨c2b0, c2b1, c2⟩ H
 ·clear c2
  obtain ⟨rfl, rfl, rfl⟩ := yp3 H
  go_enter Try.func43, Try.ntmps43
  go_wp2_with (first | ((with_reducible refine Xj (N := 1) rfl ?_); refine bxw 1 38 #[.int .i64 a0_0, .int .i64 a0_1] ?_; intro gb101 hg w3 hbox hb; have BK101 := zq (hbox); have GE101 := zq ((J22 : w.heap.size ≤ gb101)); replace HB := zq (Xe J0 hb); clear hb hbox hg) | ((with_reducible refine Xj (N := 2) rfl ?_); refine bxw 2 38 #[.int .i64 0, .int .i64 0] ?_; intro gb102 hg w4 hbox hb; have BK102 := zq (hbox); have GE102 := zq ((by rw [hg]; exact (Xc (zs1 GE101.out)) : w.heap.size ≤ gb102)); replace HB := zq (Xe (zs1 GE101.out) hb); have NB101_102 := zq ((J151 : gb101 ≠ gb102)); have NB102_101 := zq ((J152 : gb102 ≠ gb101)); replace BK101 := zq (Xg (zk BK101.out) hb); clear hb hbox hg; have hnb5 := NB101_102.out; have hnc5 := NB102_101.out; have Z6 := cz2 BK101.out; have Z7 := cz2 BK102.out))
  refine bodyPost_ret (Xa6 rfl _ _ gb102 38 #[.int .i64 0, .int .i64 0] (0, 0) _ rfl J20 Try.underlying38 rfl J17) rfl ?_
  exact ⟨J1, J23⟩
 have H' := zq H
 clear H
 go_enter Try.func43, Try.ntmps43
 go_wp2_with (first | ((with_reducible refine Xj (N := 1) rfl ?_); refine bxw 1 38 #[.int .i64 a0_0, .int .i64 a0_1] ?_; intro gb101 hg w8 hbox hb; have BK101 := zq (hbox); have GE101 := zq ((J22 : w.heap.size ≤ gb101)); replace HB := zq (Xe J0 hb); clear hb hbox hg) | ((with_reducible refine Xj (N := 2) rfl ?_); refine bxw 2 38 #[.int .i64 0, .int .i64 0] ?_; intro gb102 hg w9 hbox hb; have BK102 := zq (hbox); have GE102 := zq ((by rw [hg]; exact (Xc (zs1 GE101.out)) : w.heap.size ≤ gb102)); replace HB := zq (Xe (zs1 GE101.out) hb); have NB101_102 := zq ((J151 : gb101 ≠ gb102)); have NB102_101 := zq ((J152 : gb102 ≠ gb101)); replace BK101 := zq (Xg (zk BK101.out) hb); clear hb hbox hg; have hnb10 := NB101_102.out; have hnc10 := NB102_101.out; have Z11 := cz2 BK101.out))
 go_loopg [] k (fun kq w' => ∃ (x102000_1 : Int) (x102001_1 : Int), Aside0 (X6.l0 kq x102000_1 x102001_1 = some (r1, r2, r3)) ∧ Aside0 (kq ≤ k) ∧ Aside0 (w'.heap[gb101]? = some (.cells #[.int .i64 x102000_1, .int .i64 x102001_1] 38 (0, 0))) ∧ Aside0 (w'.heap[gb102]? = some (.cells #[.int .i64 0, .int .i64 0] 38 (0, 0))) ∧ Aside0 (Below w.heap.size w w'))
 case atStart => exact ⟨(a0_0), (a0_1), H', ⟨Nat.le_refl _⟩, ⟨by (with_reducible repeat (first | refine Xd ?_ _ | refine Xf ?_ | refine Xb ?_ _)); exact BK101.out⟩, ⟨by (with_reducible repeat (first | refine Xd ?_ _ | refine Xf ?_ | refine Xb ?_ _)); exact BK102.out⟩, ⟨J23⟩⟩
 case round =>
  clear H'
  try clear c2
  try clear c2b0
  try clear c2b1
  try clear Z11
  obtain ⟨x102000_1, x102001_1, HA, HK1, BK101, BK102, HB⟩ := hrel
  cases gk with
  | zero => exact absurd HA.out (by simp [X6.l0])
  | succ k1 =>
   have H := HA.out
   clear HA
   simp only [X6.l0] at H
   refine yE H ?_ ?_ <;> clear H <;> rintro ⟨c12b0, c12b1, c12⟩ H
   ·refine yD H ?_ ?_ <;> clear H <;> rintro c27b0 H
    ·obtain ⟨rfl, rfl, rfl⟩ := yp3 H
     have hnb28 := NB101_102.out
     have hnc28 := NB102_101.out
     have Z29 := cz2 BK101.out
     have Z30 := cz2 BK102.out
     go_wp2
     refine bodyPost_ret (Xa6 rfl _ _ gb102 38 #[.int .i64 0, .int .i64 0] (0, 0) _ rfl J20 Try.underlying38 rfl J17) rfl ?_
     exact ⟨J1, J23⟩
    ·refine yD H ?_ ?_ <;> clear H <;> rintro c31b0 H
     ·obtain ⟨rfl, rfl, rfl⟩ := yp3 H
      have hnb32 := NB101_102.out
      have hnc32 := NB102_101.out
      have Z33 := cz2 BK101.out
      have Z34 := cz2 BK102.out
      go_wp2
      refine bodyPost_ret (Xa6 rfl _ _ gb102 38 #[.int .i64 0, .int .i64 0] (0, 0) _ rfl J20 Try.underlying38 rfl J17) rfl ?_
      exact ⟨J1, J23⟩
     ·obtain ⟨rfl, rfl, rfl⟩ := yp3 H
      have hnb35 := NB101_102.out
      have hnc35 := NB102_101.out
      have Z36 := cz2 BK101.out
      have Z37 := cz2 BK102.out
      go_wp2
      refine bodyPost_ret (Xa6 rfl _ _ gb102 38 #[.int .i64 x102000_1, .int .i64 x102001_1] (0, 0) _ rfl J81 Try.underlying38 rfl J17) rfl ?_
      exact ⟨J1, J23⟩
   clear c12
   refine yD H ?_ ?_ <;> clear H <;> rintro c13b0 H
   ·have H' := zq H
    clear H
    have hnb14 := NB101_102.out
    have hnc14 := NB102_101.out
    have Z15 := cz2 BK101.out
    go_wp2
    go_roundg k1
    case measure => have := HK1.out; omega
    case rel => exact ⟨(wrap64 (Int.tdiv x102000_1 10)), (wrap64 (x102001_1 + 1)), H', ⟨J84⟩, ⟨by (with_reducible repeat (first | refine Xd ?_ _ | refine Xf ?_ | refine Xb ?_ _)); refine Xk (cs := #[.int .i64 (wrap64 (Int.tdiv x102000_1 10)), .int .i64 x102001_1]) ?_ 1 _ rfl; (with_reducible repeat (first | refine Xd ?_ _ | refine Xf ?_ | refine Xb ?_ _)); refine Xk (cs := #[.int .i64 x102000_1, .int .i64 x102001_1]) ?_ 0 _ rfl; (with_reducible repeat (first | refine Xd ?_ _ | refine Xf ?_ | refine Xb ?_ _)); exact BK101.out⟩, ⟨by (with_reducible repeat (first | refine Xd ?_ _ | refine Xf ?_ | refine Xb ?_ _)); refine Xab ?_ NB102_101.out _; (with_reducible repeat (first | refine Xd ?_ _ | refine Xf ?_ | refine Xb ?_ _)); refine Xab ?_ NB102_101.out _; (with_reducible repeat (first | refine Xd ?_ _ | refine Xf ?_ | refine Xb ?_ _)); exact BK102.out⟩, ⟨J23⟩⟩
   refine yD H ?_ ?_ <;> clear H <;> rintro c16b0 H
   ·obtain ⟨rfl, rfl, rfl⟩ := yp3 H
    have hnb17 := NB101_102.out
    have hnc17 := NB102_101.out
    have Z18 := cz2 BK101.out
    have Z19 := cz2 BK102.out
    go_wp2
    refine bodyPost_ret (Xa6 rfl _ _ gb102 38 #[.int .i64 0, .int .i64 0] (0, 0) _ rfl J20 Try.underlying38 rfl J17) rfl ?_
    exact ⟨J1, J23⟩
   refine yd H ?_ ?_ <;> clear H <;> rintro c20b0 H
   ·obtain ⟨rfl, rfl, rfl⟩ := yp3 H
    have hnb24 := NB101_102.out
    have hnc24 := NB102_101.out
    have Z25 := cz2 BK101.out
    have Z26 := cz2 BK102.out
    go_wp2
    refine bodyPost_ret (Xa6 rfl _ _ gb102 38 #[.int .i64 x102000_1, .int .i64 x102001_1] (0, 0) _ rfl J81 Try.underlying38 rfl J17) rfl ?_
    exact ⟨J1, J23⟩
   obtain ⟨rfl, rfl, rfl⟩ := yp3 H
   have hnb21 := NB101_102.out
   have hnc21 := NB102_101.out
   have Z22 := cz2 BK101.out
   have Z23 := cz2 BK102.out
   go_wp2
   refine bodyPost_ret (Xa6 rfl _ _ gb102 38 #[.int .i64 0, .int .i64 0] (0, 0) _ rfl J20 Try.underlying38 rfl J17) rfl ?_
   exact ⟨J1, J23⟩
def Xao.f (k : Nat) (a0_0 : Int) (a0_1 : Int) : Option (Bool) := (X6.f k a0_0 a0_1).bind fun bt104 => (if bt104.2.2 = true then (some (bt104.1 == a0_0 && (bt104.2.1 == a0_1))) else (some false))
theorem Xao.mono : ∀ a0 a1 k, LeO (Xao.f k a0 a1) (Xao.f (k + 1) a0 a1) := by
 intro a0 a1 k
 unfold Xao.f
 have im0 := @X6.mono
 exact mz3
set_option maxHeartbeats 8000000 in
set_option maxRecDepth 100000 in
theorem Xao.calls (k : Nat) (a0_0 : Int) (a0_1 : Int) (r : Bool) (w : World) (h : Xao.f k a0_0 a0_1 = some r) :
  Calls Try.prog 31 #[.agg #[.int .i64 a0_0, .int .i64 a0_1]] w fun e w' => e = .returned (.bool r) ∧ Below w.heap.size w w' := by
 have hu38 := Try.underlying38
 have HB := zq (Below.refl w.heap.size w)
 unfold Xao.f at h
 have H := h
 clear h
 refine yv H ?_; clear H; rintro ⟨t104, t105, t106⟩ A2 H
 dsimp only at H
 refine yC H ?_ ?_ <;> clear H <;> rintro rfl H
 ·obtain rfl := yo H
  go_enter Try.func31, Try.ntmps31
  go_wp2_with (first | ((with_reducible refine Xj (N := 1) rfl ?_); refine bxw 1 38 #[.int .i64 a0_0, .int .i64 a0_1] ?_; intro gb103 hg w4 hbox hb; have BK103 := zq (hbox); have GE103 := zq ((J22 : w.heap.size ≤ gb103)); replace HB := zq (Xe J0 hb); clear hb hbox hg; have Z5 := cz2 BK103.out) | ((with_reducible refine Xi (f := 43) rfl ?_); refine gL 7 Try.func43 #[.agg #[.int .i64 a0_0, .int .i64 a0_1]] (X6.calls k a0_0 a0_1 t104 t105 true _ A2.out) ?_; rintro e w6 ⟨rfl, hb⟩; refine ⟨_, rfl, ?_⟩; replace BK103 := zq (Xg (zk BK103.out) hb); replace HB := zq (Xe (zs1 GE103.out) hb); (try clear hb)) | ((with_reducible refine Xj (N := 3) rfl ?_); refine bxw 3 38 #[.int .i64 0, .int .i64 0] ?_; intro gb107 hg w7 hbox hb; have BK107 := zq (hbox); have GE107 := zq ((by rw [hg]; exact (Xc (zs1 GE103.out)) : w.heap.size ≤ gb107)); replace HB := zq (Xe (zs1 GE103.out) hb); have NB103_107 := zq ((J153 : gb103 ≠ gb107)); have NB107_103 := zq ((J154 : gb107 ≠ gb103)); replace BK103 := zq (Xg (zk BK103.out) hb); clear hb hbox hg; have hnb8 := NB107_103.out; have hnc8 := NB103_107.out; have Z9 := cz2 BK107.out; have Z10 := cz2 BK103.out))
  go_ret
  exact ⟨J1, J125⟩
 obtain rfl := yo H
 go_enter Try.func31, Try.ntmps31
 go_wp2_with (first | ((with_reducible refine Xj (N := 1) rfl ?_); refine bxw 1 38 #[.int .i64 a0_0, .int .i64 a0_1] ?_; intro gb103 hg w11 hbox hb; have BK103 := zq (hbox); have GE103 := zq ((J22 : w.heap.size ≤ gb103)); replace HB := zq (Xe J0 hb); clear hb hbox hg; have Z12 := cz2 BK103.out) | ((with_reducible refine Xi (f := 43) rfl ?_); refine gL 7 Try.func43 #[.agg #[.int .i64 a0_0, .int .i64 a0_1]] (X6.calls k a0_0 a0_1 t104 t105 false _ A2.out) ?_; rintro e w13 ⟨rfl, hb⟩; refine ⟨_, rfl, ?_⟩; replace BK103 := zq (Xg (zk BK103.out) hb); replace HB := zq (Xe (zs1 GE103.out) hb); (try clear hb)) | ((with_reducible refine Xj (N := 3) rfl ?_); refine bxw 3 38 #[.int .i64 0, .int .i64 0] ?_; intro gb107 hg w14 hbox hb; have BK107 := zq (hbox); have GE107 := zq ((by rw [hg]; exact (Xc (zs1 GE103.out)) : w.heap.size ≤ gb107)); replace HB := zq (Xe (zs1 GE103.out) hb); have NB103_107 := zq ((J153 : gb103 ≠ gb107)); have NB107_103 := zq ((J154 : gb107 ≠ gb103)); clear hb hbox hg; have hnb15 := NB107_103.out; have hnc15 := NB103_107.out; have Z16 := cz2 BK107.out))
 go_ret
 exact ⟨J1, J125⟩
def Xbj.f (a0 : Int) : Option (Bool) := if a0 < 0 then (some true) else (some (decide (a0 > 1048576)))
set_option maxHeartbeats 8000000 in
set_option maxRecDepth 100000 in
theorem Xbj.calls (a0 : Int) (r : Bool) (w : World) (h : Xbj.f a0 = some r) :
  Calls Try.prog 55 #[.int .i64 a0] w fun e w' => e = .returned (.bool r) ∧ Drawn0 w w' := by
 unfold Xbj.f at h
 have H := h
 clear h
 refine yd H ?_ ?_ <;> clear H <;> rintro c2b0 H
 ·obtain rfl := yo H
  go_enter Try.func55, Try.ntmps55
  go_wp2
  go_ret
  exact ⟨J4, J9⟩
 obtain rfl := yo H
 go_enter Try.func55, Try.ntmps55
 go_wp2
 go_ret
 exact ⟨J4, J9⟩
theorem Xcj {P : Program} {ops : Array Oper} {Q : Exit → Act → World → Prop} {rest : List Oper} {oi : Oper} {a : Act} {w : World} (N : Option Tmp) (hd : oi.dst = N) (hg : oi.guard = none) {f : FuncId} {fn : Func} {as_ : Array Operand} {ts : Array TypeId} (hf : P.funcs[f]? = some fn) (hname : (fn.name == "runtime.NumGoroutine") = false) (hb : fn.body.isSome = true) (args : Array Value) (x : Operand)
  (hop : oi.op = .call { callee := .value x, args := as_, argTypes := ts }) (hx : a.eval x = .func (.func f) #[] #[]) (hargs : as_.map a.eval = args)
  (h : Calls P f args w fun e w' => ∃ v, e = .returned v ∧ wpList P ops Q rest (a.put N v) w') : wpList P ops Q (oi :: rest) a w := by
 refine wpList_plain hg fun K hK => ?_
 have he := enters_ hf hname hb args w
 have hrun : (execOp a.eval oi).run P w = .ok (.enter f args) w := by
  unfold execOp
  simp [hop, hx, resolve, Deferred.ofValue, invoke, hargs, he]
 unfold Oper.wp
 rw [hrun, Oper.upon_enter]
 refine h.mono fun e w'' hh => ?_
 obtain ⟨v, rfl, hk⟩ := hh
 subst hd
 exact hK _ _ hk
def Xo.l0 : Nat → List Int → Int → Int → Option (Int)
 | 0, _, _, _ => none
 | k + 1, x0, x7, x8 => if x8 < x7 then (if 0 ≤ x8 then (if x8 < (x0.length : Int) then ((Xbj.f (rd x0 x8)).bind fun t109 => (if t109 = true then (some x8) else (Xo.l0 k x0 x7 (wrap64 (x8 + 1))))) else (none)) else (none)) else (some (-1))
def Xo.f (k : Nat) (l0 : List Int) : Option (Int) := Xo.l0 k l0 (l0.length : Int) 0
theorem Xo.mono_l : ∀ k, (∀ y0 y1 y2, LeO (Xo.l0 k y0 y1 y2) (Xo.l0 (k + 1) y0 y1 y2))
 | 0 => fun _ _ _ r h => by simp [Xo.l0] at h
 | k + 1 => by
  have ih0 := Xo.mono_l k
  ·intro y0 y1 y2
   unfold Xo.l0
   exact mz0
theorem Xo.mono : ∀ a0 k, LeO (Xo.f k a0) (Xo.f (k + 1) a0) := by
 intro a0 k
 have ih0 := Xo.mono_l k
 unfold Xo.f
 exact mz0
set_option maxHeartbeats 8000000 in
set_option maxRecDepth 100000 in
theorem Xo.calls (k : Nat) (A0 : Option Addr) (c0 : Nat) (l0 : List Int) (r : Int) (w : World) (hr0 : Kd.C (Kd.int .i64) w A0 l0.length l0) (hc0 : l0.length ≤ c0) (h : Xo.f k l0 = some r) :
  Calls Try.prog 59 #[.slice A0 l0.length c0, .func (.func 55) #[] #[]] w fun e w' => e = .returned (.int .i64 r) ∧ Drawn0 w w' := by
 have HR0 := zq hr0
 have HC0 := zq hc0
 clear hr0 hc0
 unfold Xo.f at h
 have H := h
 clear h
 have H' := zq H
 clear H
 go_enter Try.func59, Try.ntmps59
 go_wp2
 go_loopg [8] k (fun kq v8 w' => ∃ (x8_1 : Int), v8 = .int .i64 x8_1 ∧ Aside0 (Xo.l0 kq l0 (l0.length : Int) x8_1 = some r) ∧ Aside0 (kq ≤ k) ∧ Drawn0 w w')
 case atStart => exact ⟨(0), J4, H', ⟨Nat.le_refl _⟩, J9⟩
 case round =>
  clear H'
  obtain ⟨x8_1, rfl, HA, HK1, ⟨m1, rfl⟩⟩ := hrel
  cases gk with
  | zero => exact absurd HA.out (by simp [Xo.l0])
  | succ k1 =>
   have H := HA.out
   clear HA
   simp only [Xo.l0] at H
   refine yd H ?_ ?_ <;> clear H <;> rintro c2b0 H
   ·obtain rfl := yo H
    go_wp2
    go_ret
    exact ⟨J4, J9⟩
   refine yj H ?_; clear H; intro c3b0 H
   refine yj H ?_; clear H; intro c4b0 H
   refine yv H ?_; clear H; rintro t109 A5 H
   refine yC H ?_ ?_ <;> clear H <;> rintro rfl H
   ·obtain rfl := yo H
    have p108 : 0 ≤ (x8_1 : Int) := of_decide_eq_true J2
    have q108 : x8_1 < (l0.length : Int) := of_decide_eq_true J2
    obtain ⟨ad108, e108, hx108_0⟩ := Kd.at_int HR0.out x8_1 p108 q108
    cases e108
    replace p108 := eq_true p108
    replace q108 := eq_true q108
    go_wp2_with (first | ((with_reducible refine Xj (N := 16) rfl ?_); refine Xcj (some 16) rfl rfl Try.func55 J17 rfl #[.int .i64 (rd l0 x8_1)] (.tmp 11) rfl rfl J3 ?_; (with_reducible refine (Xbj.calls (rd l0 x8_1) true _ A5.out).mono ?_); rintro e w' ⟨rfl, ⟨nd, rfl⟩⟩; refine ⟨_, rfl, ?_⟩))
    go_ret
    exact ⟨J4, J9⟩
   have H' := zq H
   clear H
   have p108 : 0 ≤ (x8_1 : Int) := of_decide_eq_true J2
   have q108 : x8_1 < (l0.length : Int) := of_decide_eq_true J2
   obtain ⟨ad108, e108, hx108_0⟩ := Kd.at_int HR0.out x8_1 p108 q108
   cases e108
   replace p108 := eq_true p108
   replace q108 := eq_true q108
   go_wp2_with (first | ((with_reducible refine Xj (N := 16) rfl ?_); refine Xcj (some 16) rfl rfl Try.func55 J17 rfl #[.int .i64 (rd l0 x8_1)] (.tmp 11) rfl rfl J3 ?_; (with_reducible refine (Xbj.calls (rd l0 x8_1) false _ A5.out).mono ?_); rintro e w' ⟨rfl, ⟨nd, rfl⟩⟩; refine ⟨_, rfl, ?_⟩))
   go_roundg k1
   case measure => have := HK1.out; omega
   case rel => exact ⟨(wrap64 (x8_1 + 1)), J4, H', ⟨J84⟩, J9⟩
def Xag.f (k : Nat) (l0 : List Int) : Option (Bool) := (Xo.f k l0).bind fun t110 => (some (decide (t110 ≥ 0)))
theorem Xag.mono : ∀ a0 k, LeO (Xag.f k a0) (Xag.f (k + 1) a0) := by
 intro a0 k
 unfold Xag.f
 have im0 := @Xo.mono
 exact mz3
set_option maxHeartbeats 8000000 in
set_option maxRecDepth 100000 in
theorem Xag.calls (k : Nat) (A0 : Option Addr) (c0 : Nat) (l0 : List Int) (r : Bool) (w : World) (hr0 : Kd.C (Kd.int .i64) w A0 l0.length l0) (hc0 : l0.length ≤ c0) (h : Xag.f k l0 = some r) :
  Calls Try.prog 38 #[.slice A0 l0.length c0, .func (.func 55) #[] #[]] w fun e w' => e = .returned (.bool r) ∧ Drawn0 w w' := by
 have HR0 := zq hr0
 have HC0 := zq hc0
 clear hr0 hc0
 unfold Xag.f at h
 have H := h
 clear h
 refine yv H ?_; clear H; rintro t110 A2 H
 obtain rfl := yo H
 go_enter Try.func38, Try.ntmps38
 go_wp2_with (first | ((with_reducible refine Xi (f := 59) rfl ?_); refine gL 7 Try.func59 #[.slice A0 l0.length c0, .func (.func 55) #[] #[]] (Xo.calls k _ _ l0 t110 _ (zc HR0.out) HC0.out A2.out) ?_; rintro e w' ⟨rfl, ⟨nd, rfl⟩⟩; refine ⟨_, rfl, ?_⟩))
 go_ret
 exact ⟨J4, J9⟩
def Xq.l0 : Nat → List Int → Int → Int → Int → Option (Int)
 | 0, _, _, _, _ => none
 | k + 1, x0, x1, x7, x8 => if x8 < x7 then (if 0 ≤ x8 then (if x8 < (x0.length : Int) then (if x1 = (rd x0 x8) then (some x8) else (Xq.l0 k x0 x1 x7 (wrap64 (x8 + 1)))) else (none)) else (none)) else (some (-1))
def Xq.f (k : Nat) (l0 : List Int) (a1 : Int) : Option (Int) := Xq.l0 k l0 a1 (l0.length : Int) 0
theorem Xq.mono_l : ∀ k, (∀ y0 y1 y2 y3, LeO (Xq.l0 k y0 y1 y2 y3) (Xq.l0 (k + 1) y0 y1 y2 y3))
 | 0 => fun _ _ _ _ r h => by simp [Xq.l0] at h
 | k + 1 => by
  have ih0 := Xq.mono_l k
  ·intro y0 y1 y2 y3
   unfold Xq.l0
   exact mz0
theorem Xq.mono : ∀ a0 a1 k, LeO (Xq.f k a0 a1) (Xq.f (k + 1) a0 a1) := by
 intro a0 a1 k
 have ih0 := Xq.mono_l k
 unfold Xq.f
 exact mz0
set_option maxHeartbeats 8000000 in
set_option maxRecDepth 100000 in
theorem Xq.calls (k : Nat) (A0 : Option Addr) (c0 : Nat) (l0 : List Int) (a1 : Int) (r : Int) (w : World) (hr0 : Kd.C (Kd.int .i64) w A0 l0.length l0) (hc0 : l0.length ≤ c0) (h : Xq.f k l0 a1 = some r) :
  Calls Try.prog 70 #[.slice A0 l0.length c0, .int .i64 a1] w fun e w' => e = .returned (.int .i64 r) ∧ Drawn0 w w' := by
 have HR0 := zq hr0
 have HC0 := zq hc0
 clear hr0 hc0
 unfold Xq.f at h
 have H := h
 clear h
 have H' := zq H
 clear H
 go_enter Try.func70, Try.ntmps70
 go_wp2
 go_loopg [8] k (fun kq v8 w' => ∃ (x8_1 : Int), v8 = .int .i64 x8_1 ∧ Aside0 (Xq.l0 kq l0 a1 (l0.length : Int) x8_1 = some r) ∧ Aside0 (kq ≤ k) ∧ Drawn0 w w')
 case atStart => exact ⟨(0), J4, H', ⟨Nat.le_refl _⟩, J9⟩
 case round =>
  clear H'
  obtain ⟨x8_1, rfl, HA, HK1, ⟨m1, rfl⟩⟩ := hrel
  cases gk with
  | zero => exact absurd HA.out (by simp [Xq.l0])
  | succ k1 =>
   have H := HA.out
   clear HA
   simp only [Xq.l0] at H
   refine yd H ?_ ?_ <;> clear H <;> rintro c3b0 H
   ·obtain rfl := yo H
    go_wp2
    go_ret
    exact ⟨J4, J9⟩
   refine yj H ?_; clear H; intro c4b0 H
   refine yj H ?_; clear H; intro c5b0 H
   refine yF H ?_ ?_ <;> clear H <;> rintro ⟨c6b0, c6b1, c6⟩ H
   ·clear c6
    obtain rfl := yo H
    have p111 : 0 ≤ (x8_1 : Int) := of_decide_eq_true J2
    have q111 : x8_1 < (l0.length : Int) := of_decide_eq_true J2
    obtain ⟨ad111, e111, hx111_0⟩ := Kd.at_int HR0.out x8_1 p111 q111
    cases e111
    replace p111 := eq_true p111
    replace q111 := eq_true q111
    go_wp2
    go_ret
    exact ⟨J4, J9⟩
   have H' := zq H
   clear H
   have p111 : 0 ≤ (x8_1 : Int) := of_decide_eq_true J2
   have q111 : x8_1 < (l0.length : Int) := of_decide_eq_true J2
   obtain ⟨ad111, e111, hx111_0⟩ := Kd.at_int HR0.out x8_1 p111 q111
   cases e111
   replace p111 := eq_true p111
   replace q111 := eq_true q111
   go_wp2
   go_roundg k1
   case measure => have := HK1.out; omega
   case rel => exact ⟨(wrap64 (x8_1 + 1)), J4, H', ⟨J84⟩, J9⟩
def Xak.f (k : Nat) (l0 : List Int) (a1 : Int) : Option (Bool) := (Xq.f k l0 a1).bind fun t112 => (some (decide (t112 ≥ 0)))
theorem Xak.mono : ∀ a0 a1 k, LeO (Xak.f k a0 a1) (Xak.f (k + 1) a0 a1) := by
 intro a0 a1 k
 unfold Xak.f
 have im0 := @Xq.mono
 exact mz3
set_option maxHeartbeats 8000000 in
set_option maxRecDepth 100000 in
theorem Xak.calls (k : Nat) (A0 : Option Addr) (c0 : Nat) (l0 : List Int) (a1 : Int) (r : Bool) (w : World) (hr0 : Kd.C (Kd.int .i64) w A0 l0.length l0) (hc0 : l0.length ≤ c0) (h : Xak.f k l0 a1 = some r) :
  Calls Try.prog 56 #[.slice A0 l0.length c0, .int .i64 a1] w fun e w' => e = .returned (.bool r) ∧ Drawn0 w w' := by
 have HR0 := zq hr0
 have HC0 := zq hc0
 clear hr0 hc0
 unfold Xak.f at h
 have H := h
 clear h
 refine yv H ?_; clear H; rintro t112 A3 H
 obtain rfl := yo H
 go_enter Try.func56, Try.ntmps56
 go_wp2_with (first | ((with_reducible refine Xi (f := 70) rfl ?_); refine gL 7 Try.func70 #[.slice A0 l0.length c0, .int .i64 a1] (Xq.calls k _ _ l0 a1 t112 _ (zc HR0.out) HC0.out A3.out) ?_; rintro e w' ⟨rfl, ⟨nd, rfl⟩⟩; refine ⟨_, rfl, ?_⟩))
 go_ret
 exact ⟨J4, J9⟩
mutual
def Xz.j0 : Nat → List Int → Bool → Option (Int × Bool)
 | 0, _, _ => none
 | k + 1, x0, x8 => if x8 = true then (some (0, false)) else ((Xak.f k x0 0).bind fun t114 => (if t114 = true then (some (0, true)) else (Xz.l0 k 1 x0 (x0.length : Int) 0)))
def Xz.l0 : Nat → Int → List Int → Int → Int → Option (Int × Bool)
 | 0, _, _, _, _ => none
 | k + 1, x5, x20, x21, x22 => if x22 < x21 then (if 0 ≤ x22 then (if x22 < (x20.length : Int) then ((Xbj.f (wrap64 (x5 * (rd x20 x22)))).bind fun t116 => (if t116 = true then (some (0, false)) else (Xz.l0 k (wrap64 (x5 * (rd x20 x22))) x20 x21 (wrap64 (x22 + 1))))) else (none)) else (none)) else (some (x5, true))
end
def Xz.f (k : Nat) (l0 : List Int) : Option (Int × Bool) := if (l0.length : Int) > 16 then (Xz.j0 k l0 true) else ((Xag.f k l0).bind fun t113 => (Xz.j0 k l0 t113))
theorem Xz.mono_l : ∀ k, (∀ y0 y1, LeO (Xz.j0 k y0 y1) (Xz.j0 (k + 1) y0 y1)) ∧ (∀ y0 y1 y2 y3, LeO (Xz.l0 k y0 y1 y2 y3) (Xz.l0 (k + 1) y0 y1 y2 y3))
 | 0 => ⟨fun _ _ r h => by simp [Xz.j0] at h, fun _ _ _ _ r h => by simp [Xz.l0] at h⟩
 | k + 1 => by
  obtain ⟨ih0, ih1⟩ := Xz.mono_l k
  refine ⟨?_, ?_⟩
  ·intro y0 y1
   unfold Xz.j0
   have im0 := @Xag.mono
   have im1 := @Xak.mono
   exact mz3
  ·intro y0 y1 y2 y3
   unfold Xz.l0
   have im0 := @Xag.mono
   have im1 := @Xak.mono
   exact mz3
theorem Xz.mono : ∀ a0 k, LeO (Xz.f k a0) (Xz.f (k + 1) a0) := by
 intro a0 k
 obtain ⟨ih0, ih1⟩ := Xz.mono_l k
 unfold Xz.f
 have im0 := @Xag.mono
 have im1 := @Xak.mono
 exact mz3
set_option maxHeartbeats 8000000 in
set_option maxRecDepth 100000 in
theorem Xz.calls (k : Nat) (A0 : Option Addr) (c0 : Nat) (l0 : List Int) (r1 : Int) (r2 : Bool) (w : World) (hr0 : Kd.C (Kd.int .i64) w A0 l0.length l0) (hc0 : l0.length ≤ c0) (h : Xz.f k l0 = some (r1, r2)) :
  Calls Try.prog 32 #[.slice A0 l0.length c0] w fun e w' => e = .returned (.tuple #[.int .i64 r1, .bool r2]) ∧ Drawn0 w w' := by
 have HR0 := zq hr0
 have HC0 := zq hc0
 clear hr0 hc0
 unfold Xz.f at h
 have H := h
 clear h
 have HC2 := zq H
 clear H
 go_enter Try.func32, Try.ntmps32
 go_upto_region 2 with (fail)
 go_cut [8] (fun v8 wc => ∃ (kq : Nat) (x8_1 : Bool), v8 = .bool x8_1 ∧ Aside0 (Xz.j0 kq l0 x8_1 = some (r1, r2)) ∧ Aside0 (kq ≤ k) ∧ Drawn0 w wc)
 case first =>
  have H := HC2.out
  clear HC2
  refine yu H ?_ ?_ <;> clear H <;> rintro c3 H
  ·have c3b0 : decide (16 < (l0.length : Int)) = true := decide_eq_true c3
   have c3b1 : decide (16 < l0.length) = true := decide_eq_true J29
   clear c3
   (first | rw [c3b0] | (simp only [Xan, Xaq]; rw [c3b0]) | skip)
   have H' := zq H
   clear H
   go_wp2
   go_meet
   case rel => exact ⟨_, (true), J4, H', ⟨J32⟩, J9⟩
  have c3b0 := decide_eq_false c3
  have c3b1 : decide (16 < l0.length) = false := decide_eq_false J29
  clear c3
  (first | rw [c3b0] | (simp only [Xan, Xaq]; rw [c3b0]) | skip)
  refine yv H ?_; clear H; rintro t113 A4 H
  have H' := zq H
  clear H
  go_wp2_with (first | (go_at_call 38; (with_reducible refine (Xag.calls k _ _ l0 t113 _ ?side1 ?side2 A4.out).mono ?_); (case side1 => exact zc HR0.out); (case side2 => exact HC0.out); rintro e w' ⟨rfl, ⟨nd, rfl⟩⟩))
  go_meet
  case rel => exact ⟨_, (t113), J4, H', ⟨J32⟩, J9⟩
 case rest =>
  clear HC2
  obtain ⟨kq, x8_1, rfl, HA, HJ1, ⟨mc1, rfl⟩⟩ := hcut
  cases kq with
  | zero => exact absurd HA.out (by simp [Xz.j0])
  | succ kj1 =>
   have H := HA.out
   clear HA
   simp only [Xz.j0] at H
   refine yC H ?_ ?_ <;> clear H <;> rintro rfl H
   ·obtain ⟨rfl, rfl⟩ := yp2 H
    go_wp2
    go_ret2
    exact ⟨J4, J9⟩
   refine yv H ?_; clear H; rintro t114 A6 H
   refine yC H ?_ ?_ <;> clear H <;> rintro rfl H
   ·obtain ⟨rfl, rfl⟩ := yp2 H
    go_wp2_with (first | ((with_reducible refine Xi (f := 56) rfl ?_); refine gL 19 Try.func56 #[.slice A0 l0.length c0, .int .i64 0] (Xak.calls kj1 _ _ l0 0 true _ (zc HR0.out) HC0.out A6.out) ?_; rintro e w' ⟨rfl, ⟨nd, rfl⟩⟩; refine ⟨_, rfl, ?_⟩))
    go_ret2
    exact ⟨J4, J9⟩
   have H' := zq H
   clear H
   go_wp2_with (first | ((with_reducible refine Xi (f := 56) rfl ?_); refine gL 19 Try.func56 #[.slice A0 l0.length c0, .int .i64 0] (Xak.calls kj1 _ _ l0 0 false _ (zc HR0.out) HC0.out A6.out) ?_; rintro e w' ⟨rfl, ⟨nd, rfl⟩⟩; refine ⟨_, rfl, ?_⟩))
   go_loopg [5, 22] kj1 (fun kq v5 v22 w' => ∃ (x5_2 : Int) (x22_2 : Int), v5 = .int .i64 x5_2 ∧ v22 = .int .i64 x22_2 ∧ Aside0 (Xz.l0 kq x5_2 l0 (l0.length : Int) x22_2 = some (r1, r2)) ∧ Aside0 (kq ≤ kj1) ∧ Drawn0 w w')
   case atStart => exact ⟨(1), (0), J4, J4, H', ⟨Nat.le_refl _⟩, J9⟩
   case round =>
    clear H'
    obtain ⟨x5_2, x22_2, rfl, rfl, HA, HK2, ⟨m2, rfl⟩⟩ := hrel
    cases gk with
    | zero => exact absurd HA.out (by simp [Xz.l0])
    | succ k2 =>
     have H := HA.out
     clear HA
     simp only [Xz.l0] at H
     refine yd H ?_ ?_ <;> clear H <;> rintro c8b0 H
     ·obtain ⟨rfl, rfl⟩ := yp2 H
      go_wp2
      go_ret2
      exact ⟨J4, J9⟩
     refine yj H ?_; clear H; intro c9b0 H
     refine yj H ?_; clear H; intro c10b0 H
     refine yv H ?_; clear H; rintro t116 A11 H
     refine yC H ?_ ?_ <;> clear H <;> rintro rfl H
     ·obtain ⟨rfl, rfl⟩ := yp2 H
      have p115 : 0 ≤ (x22_2 : Int) := of_decide_eq_true J2
      have q115 : x22_2 < (l0.length : Int) := of_decide_eq_true J2
      obtain ⟨ad115, e115, hx115_0⟩ := Kd.at_int HR0.out x22_2 p115 q115
      cases e115
      replace p115 := eq_true p115
      replace q115 := eq_true q115
      go_wp2_with (first | ((with_reducible refine Xj (N := 31) rfl ?_); refine Xcj (some 31) rfl rfl Try.func55 J17 rfl #[.int .i64 (wrap64 (x5_2 * (rd l0 x22_2)))] (.tmp 29) rfl rfl J3 ?_; (with_reducible refine (Xbj.calls (wrap64 (x5_2 * (rd l0 x22_2))) true _ A11.out).mono ?_); rintro e w' ⟨rfl, ⟨nd, rfl⟩⟩; refine ⟨_, rfl, ?_⟩))
      go_ret2
      exact ⟨J4, J9⟩
     have H' := zq H
     clear H
     have p115 : 0 ≤ (x22_2 : Int) := of_decide_eq_true J2
     have q115 : x22_2 < (l0.length : Int) := of_decide_eq_true J2
     obtain ⟨ad115, e115, hx115_0⟩ := Kd.at_int HR0.out x22_2 p115 q115
     cases e115
     replace p115 := eq_true p115
     replace q115 := eq_true q115
     go_wp2_with (first | ((with_reducible refine Xj (N := 31) rfl ?_); refine Xcj (some 31) rfl rfl Try.func55 J17 rfl #[.int .i64 (wrap64 (x5_2 * (rd l0 x22_2)))] (.tmp 29) rfl rfl J3 ?_; (with_reducible refine (Xbj.calls (wrap64 (x5_2 * (rd l0 x22_2))) false _ A11.out).mono ?_); rintro e w' ⟨rfl, ⟨nd, rfl⟩⟩; refine ⟨_, rfl, ?_⟩))
     go_roundg k2
     case measure => have := HJ1.out; have := HK2.out; omega
     case rel => exact ⟨(wrap64 (x5_2 * (rd l0 x22_2))), (wrap64 (x22_2 + 1)), J4, J4, H', ⟨J144⟩, J9⟩
end Go.Proofs.Ytecdklheppcihaa.HTightTells
