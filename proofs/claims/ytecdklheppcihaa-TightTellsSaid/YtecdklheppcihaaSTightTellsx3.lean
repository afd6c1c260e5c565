/- Words and walks, shortened by a program: what this claim's functions answer, and that other memory stays. -/
import Derived.Test.YtecdklheppcihaaSTightTellsx0
import Derived.Test.YtecdklheppcihaaSTightTellsx2
namespace Go.Proofs.Ytecdklheppcihaa.HTightTells
open Go.RowKit Go.Proofs.YtecdklheppcihaaW.PrintWords Go.Proofs.YtecdklheppcihaaW.PrintLast Go.Proofs.YtecdklheppcihaaW.PrintMore
attribute [local go_sem] Xbp Xbn Xbu Xbt Xbg Xbf Xbo Xbm
set_option linter.unusedVariables false
set_option linter.unusedSimpArgs false
def Xaa.j0 : Nat → Int → Bool → Option (Bool)
 | 0, _, _ => none
 | k + 1, x0, x3 => if x3 = true then (some true) else (if 57343 < x0 then (if x0 ≤ 1114111 then (some true) else (some false)) else (some false))
def Xaa.f (k : Nat) (a0 : Int) : Option (Bool) := if 0 ≤ a0 then (Xaa.j0 k a0 (decide (a0 < 55296))) else (Xaa.j0 k a0 false)
theorem Xaa.mono_l : ∀ k, (∀ y0 y1, LeO (Xaa.j0 k y0 y1) (Xaa.j0 (k + 1) y0 y1))
 | 0 => fun _ _ r h => by simp [Xaa.j0] at h
 | k + 1 => by
  have ih0 := Xaa.mono_l k
  ·intro y0 y1
   unfold Xaa.j0
   exact mz0
theorem Xaa.mono : ∀ a0 k, LeO (Xaa.f k a0) (Xaa.f (k + 1) a0) := by
 intro a0 k
 have ih0 := Xaa.mono_l k
 unfold Xaa.f
 exact mz0
set_option maxHeartbeats 8000000 in
set_option maxRecDepth 100000 in
theorem Xaa.calls (k : Nat) (a0 : Int) (r : Bool) (w : World) (h : Xaa.f k a0 = some r) :
  Calls Try.prog 76 #[.int .i32 a0] w fun e w' => e = .returned (.bool r) ∧ Drawn0 w w' := by
 unfold Xaa.f at h
 have H := h
 clear h
 have HC2 := zq H
 clear H
 go_enter Try.func76, Try.ntmps76
 go_upto_region 1 with (fail)
 go_cut [3] (fun v3 wc => ∃ (kq : Nat) (x3_1 : Bool), v3 = .bool x3_1 ∧ Aside0 (Xaa.j0 kq a0 x3_1 = some r) ∧ Aside0 (kq ≤ k) ∧ Drawn0 w wc)
 case first =>
  have H := HC2.out
  clear HC2
  refine yd H ?_ ?_ <;> clear H <;> rintro c3b0 H
  ·(first | rw [c3b0] | (simp only [Xan, Xaq]; rw [c3b0]) | skip)
   have H' := zq H
   clear H
   go_wp2
   go_meet
   case rel => exact ⟨_, (false), J4, H', ⟨J32⟩, J9⟩
  (first | rw [c3b0] | (simp only [Xan, Xaq]; rw [c3b0]) | skip)
  have H' := zq H
  clear H
  go_wp2
  go_meet
  case rel => exact ⟨_, (decide (a0 < 55296)), J4, H', ⟨J32⟩, J9⟩
 case rest =>
  clear HC2
  obtain ⟨kq, x3_1, rfl, HA, HJ1, ⟨mc1, rfl⟩⟩ := hcut
  cases kq with
  | zero => exact absurd HA.out (by simp [Xaa.j0])
  | succ kj1 =>
   have H := HA.out
   clear HA
   simp only [Xaa.j0] at H
   refine yC H ?_ ?_ <;> clear H <;> rintro rfl H
   ·obtain rfl := yo H
    go_wp2
    go_ret
    exact ⟨J4, J9⟩
   refine yd H ?_ ?_ <;> clear H <;> rintro c5b0 H
   ·obtain rfl := yo H
    go_wp2
    go_ret
    exact ⟨J4, J9⟩
   refine yd H ?_ ?_ <;> clear H <;> rintro c6b0 H
   ·obtain rfl := yo H
    go_wp2
    go_ret
    exact ⟨J4, J9⟩
   obtain rfl := yo H
   go_wp2
   go_ret
   exact ⟨J4, J9⟩
def Xbb.f (k : Nat) (a0 : Int) (a1 : Int) : Option (Bool) := if a0 = 1 then (some ((Go.bits .andNot .i64 a1 1) == 0)) else (if a0 = 2 then (some true) else (if a0 = 3 then (if a1 = (wrap64 (wrap32 (a1))) then ((Xaa.f k (wrap32 (a1))).bind fun t117 => (some t117)) else (some false)) else (some false)))
theorem Xbb.mono : ∀ a0 a1 k, LeO (Xbb.f k a0 a1) (Xbb.f (k + 1) a0 a1) := by
 intro a0 a1 k
 unfold Xbb.f
 have im0 := @Xaa.mono
 exact mz3
set_option maxHeartbeats 8000000 in
set_option maxRecDepth 100000 in
theorem Xbb.calls (k : Nat) (a0 : Int) (a1 : Int) (r : Bool) (w : World) (h : Xbb.f k a0 a1 = some r) :
  Calls Try.prog 72 #[.int .i64 a0, .int .i64 a1] w fun e w' => e = .returned (.bool r) ∧ Drawn0 w w' := by
 unfold Xbb.f at h
 have H := h
 clear h
 refine yF H ?_ ?_ <;> clear H <;> rintro ⟨c3b0, c3b1, c3⟩ H
 ·clear c3
  obtain rfl := yo H
  go_enter Try.func72, Try.ntmps72
  go_wp2
  go_ret
  exact ⟨J4, J9⟩
 refine yF H ?_ ?_ <;> clear H <;> rintro ⟨c4b0, c4b1, c4⟩ H
 ·clear c4
  obtain rfl := yo H
  go_enter Try.func72, Try.ntmps72
  go_wp2
  go_ret
  exact ⟨J4, J9⟩
 refine yE H ?_ ?_ <;> clear H <;> rintro ⟨c5b0, c5b1, c5⟩ H
 ·obtain rfl := yo H
  go_enter Try.func72, Try.ntmps72
  go_wp2
  go_ret
  exact ⟨J4, J9⟩
 clear c5
 refine yE H ?_ ?_ <;> clear H <;> rintro ⟨c6b0, c6b1, c6⟩ H
 ·obtain rfl := yo H
  go_enter Try.func72, Try.ntmps72
  go_wp2
  go_ret
  exact ⟨J4, J9⟩
 clear c6
 refine yv H ?_; clear H; rintro t117 A7 H
 obtain rfl := yo H
 go_enter Try.func72, Try.ntmps72
 go_wp2_with (first | (go_at_call 76; (with_reducible refine (Xaa.calls k (wrap32 (a1)) t117 _ A7.out).mono ?_); rintro e w' ⟨rfl, ⟨nd, rfl⟩⟩))
 go_ret
 exact ⟨J4, J9⟩
def Xbe.f (k : Nat) (a0 : Int) (a1 : Int) : Option (Bool) := (Xbb.f k a1 a0).bind fun t118 => (some t118)
theorem Xbe.mono : ∀ a0 a1 k, LeO (Xbe.f k a0 a1) (Xbe.f (k + 1) a0 a1) := by
 intro a0 a1 k
 unfold Xbe.f
 have im0 := @Xbb.mono
 exact mz3
set_option maxHeartbeats 8000000 in
set_option maxRecDepth 100000 in
theorem Xbe.calls (k : Nat) (a0 : Int) (a1 : Int) (gb_ : Nat) (r : Bool) (w : World) (hgb_ : w.cell? ⟨gb_, 0, none⟩ = some (.int .i64 a1)) (h : Xbe.f k a0 a1 = some r) :
  Calls Try.prog 71 #[.int .i64 a0, .pointer (some ⟨gb_, 0, none⟩)] w fun e w' => e = .returned (.bool r) ∧ Drawn0 w w' := by
 unfold Xbe.f at h
 have H := h
 clear h
 refine yv H ?_; clear H; rintro t118 A3 H
 obtain rfl := yo H
 go_enter Try.func71, Try.ntmps71
 go_wp2_with (first | ((with_reducible refine Xi (f := 72) rfl ?_); refine gL 7 Try.func72 #[.int .i64 a1, .int .i64 a0] (Xbb.calls k a1 a0 t118 _ A3.out) ?_; rintro e w' ⟨rfl, ⟨nd, rfl⟩⟩; refine ⟨_, rfl, ?_⟩))
 go_ret
 exact ⟨J4, J9⟩
theorem goesCv_ {P : Program} {ops : Array Oper} {Q : Exit → Act → World → Prop} {rest : List Oper} {oi : Oper} {a : Act} {w : World} (N : Option Tmp) (hd : oi.dst = N) (hg : oi.guard = none) {f : FuncId} {fn : Func} {as_ : Array Operand} {ts : Array TypeId} (hf : P.funcs[f]? = some fn) (hname : (fn.name == "runtime.NumGoroutine") = false) (hb : fn.body.isSome = true) (args cap all : Array Value) (hall : args ++ cap = all) (x : Operand)
  (hop : oi.op = .call { callee := .value x, args := as_, argTypes := ts }) (hx : a.eval x = .func (.func f) #[] cap) (hargs : as_.map a.eval = args)
  (h : Calls P f all w fun e w' => ∃ v, e = .returned v ∧ wpList P ops Q rest (a.put N v) w') : wpList P ops Q (oi :: rest) a w := by
 subst hall
 refine wpList_plain hg fun K hK => ?_
 have he := enters_ hf hname hb (args ++ cap) w
 have hrun : (execOp a.eval oi).run P w = .ok (.enter f (args ++ cap)) w := by
  unfold execOp
  simp [hop, hx, resolve, Deferred.ofValue, invoke, hargs, he]
 unfold Oper.wp
 rw [hrun, Oper.upon_enter]
 refine h.mono fun e w'' hh => ?_
 obtain ⟨v, rfl, hk⟩ := hh
 subst hd
 exact hK _ _ hk
def X1.l0 : Nat → Int → List Int → Int → Int → Option (Bool)
 | 0, _, _, _, _ => none
 | k + 1, x1, x7, x8, x9 => if x9 < x8 then (if 0 ≤ x9 then (if x9 < (x7.length : Int) then ((Xbe.f k (rd x7 x9) x1).bind fun t120 => (if t120 = true then (X1.l0 k x1 x7 x8 (wrap64 (x9 + 1))) else (some true))) else (none)) else (none)) else (some false)
def X1.f (k : Nat) (l0 : List Int) (a1 : Int) : Option (Bool) := X1.l0 k a1 l0 (l0.length : Int) 0
theorem X1.mono_l : ∀ k, (∀ y0 y1 y2 y3, LeO (X1.l0 k y0 y1 y2 y3) (X1.l0 (k + 1) y0 y1 y2 y3))
 | 0 => fun _ _ _ _ r h => by simp [X1.l0] at h
 | k + 1 => by
  have ih0 := X1.mono_l k
  ·intro y0 y1 y2 y3
   unfold X1.l0
   have im0 := @Xbe.mono
   exact mz3
theorem X1.mono : ∀ a0 a1 k, LeO (X1.f k a0 a1) (X1.f (k + 1) a0 a1) := by
 intro a0 a1 k
 have ih0 := X1.mono_l k
 unfold X1.f
 have im0 := @Xbe.mono
 exact mz3
set_option maxHeartbeats 8000000 in
set_option maxRecDepth 100000 in
theorem X1.calls (k : Nat) (A0 : Option Addr) (c0 : Nat) (l0 : List Int) (a1 : Int) (gb_ : Nat) (r : Bool) (w : World) (hgb_ : w.cell? ⟨gb_, 0, none⟩ = some (.int .i64 a1)) (hr0 : Kd.C (Kd.int .i64) w A0 l0.length l0) (hc0 : l0.length ≤ c0) (h : X1.f k l0 a1 = some r) :
  Calls Try.prog 73 #[.slice A0 l0.length c0, .func (.func 71) #[] #[.pointer (some ⟨gb_, 0, none⟩)]] w fun e w' => e = .returned (.bool r) ∧ Drawn0 w w' := by
 have HR0 := zq hr0
 have HC0 := zq hc0
 clear hr0 hc0
 unfold X1.f at h
 have H := h
 clear h
 have H' := zq H
 clear H
 go_enter Try.func73, Try.ntmps73
 go_wp2
 go_loopg [9] k (fun kq v9 w' => ∃ (x9_1 : Int), v9 = .int .i64 x9_1 ∧ Aside0 (X1.l0 kq a1 l0 (l0.length : Int) x9_1 = some r) ∧ Aside0 (kq ≤ k) ∧ Drawn0 w w')
 case atStart => exact ⟨(0), J4, H', ⟨Nat.le_refl _⟩, J9⟩
 case round =>
  clear H'
  obtain ⟨x9_1, rfl, HA, HK1, ⟨m1, rfl⟩⟩ := hrel
  cases gk with
  | zero => exact absurd HA.out (by simp [X1.l0])
  | succ k1 =>
   have H := HA.out
   clear HA
   simp only [X1.l0] at H
   refine yd H ?_ ?_ <;> clear H <;> rintro c3b0 H
   ·obtain rfl := yo H
    go_wp2
    go_ret
    exact ⟨J4, J9⟩
   refine yj H ?_; clear H; intro c4b0 H
   refine yj H ?_; clear H; intro c5b0 H
   refine yv H ?_; clear H; rintro t120 A6 H
   refine yB H ?_ ?_ <;> clear H <;> rintro rfl H
   ·obtain rfl := yo H
    have p119 : 0 ≤ (x9_1 : Int) := of_decide_eq_true J2
    have q119 : x9_1 < (l0.length : Int) := of_decide_eq_true J2
    obtain ⟨ad119, e119, hx119_0⟩ := Kd.at_int HR0.out x9_1 p119 q119
    cases e119
    replace p119 := eq_true p119
    replace q119 := eq_true q119
    go_wp2_with (first | ((with_reducible refine Xj (N := 15) rfl ?_); refine goesCv_ (some 15) rfl rfl Try.func71 J17 rfl #[.int .i64 (rd l0 x9_1)] #[.pointer (some ⟨gb_, 0, none⟩)] #[.int .i64 (rd l0 x9_1), .pointer (some ⟨gb_, 0, none⟩)] rfl (.tmp 13) rfl rfl J3 ?_; (with_reducible refine (Xbe.calls k1 (rd l0 x9_1) a1 gb_ false _ (by first | exact hgb_ | simpa using hgb_) A6.out).mono ?_); rintro e w' ⟨rfl, ⟨nd, rfl⟩⟩; refine ⟨_, rfl, ?_⟩))
    go_ret
    exact ⟨J4, J9⟩
   have H' := zq H
   clear H
   have p119 : 0 ≤ (x9_1 : Int) := of_decide_eq_true J2
   have q119 : x9_1 < (l0.length : Int) := of_decide_eq_true J2
   obtain ⟨ad119, e119, hx119_0⟩ := Kd.at_int HR0.out x9_1 p119 q119
   cases e119
   replace p119 := eq_true p119
   replace q119 := eq_true q119
   go_wp2_with (first | ((with_reducible refine Xj (N := 15) rfl ?_); refine goesCv_ (some 15) rfl rfl Try.func71 J17 rfl #[.int .i64 (rd l0 x9_1)] #[.pointer (some ⟨gb_, 0, none⟩)] #[.int .i64 (rd l0 x9_1), .pointer (some ⟨gb_, 0, none⟩)] rfl (.tmp 13) rfl rfl J3 ?_; (with_reducible refine (Xbe.calls k1 (rd l0 x9_1) a1 gb_ true _ (by first | exact hgb_ | simpa using hgb_) A6.out).mono ?_); rintro e w' ⟨rfl, ⟨nd, rfl⟩⟩; refine ⟨_, rfl, ?_⟩))
   go_roundg k1
   case measure => have := HK1.out; omega
   case rel => exact ⟨(wrap64 (x9_1 + 1)), J4, H', ⟨J84⟩, J9⟩
def Xau.l0 : Nat → List (S38) → Int → Int → Option (Bool)
 | 0, _, _, _ => none
 | k + 1, x7, x8, x9 => if x9 < x8 then (if 0 ≤ x9 then (if x9 < (x7.length : Int) then ((Xao.f k ((Xt x7 x9).f0) ((Xt x7 x9).f1)).bind fun t123 => (if t123 = true then (Xau.l0 k x7 x8 (wrap64 (x9 + 1))) else (some true))) else (none)) else (none)) else (some false)
def Xau.f (k : Nat) (l0 : List (S38)) : Option (Bool) := Xau.l0 k l0 (l0.length : Int) 0
theorem Xau.mono_l : ∀ k, (∀ y0 y1 y2, LeO (Xau.l0 k y0 y1 y2) (Xau.l0 (k + 1) y0 y1 y2))
 | 0 => fun _ _ _ r h => by simp [Xau.l0] at h
 | k + 1 => by
  have ih0 := Xau.mono_l k
  ·intro y0 y1 y2
   unfold Xau.l0
   have im0 := @Xao.mono
   exact mz3
theorem Xau.mono : ∀ a0 k, LeO (Xau.f k a0) (Xau.f (k + 1) a0) := by
 intro a0 k
 have ih0 := Xau.mono_l k
 unfold Xau.f
 have im0 := @Xao.mono
 exact mz3
set_option maxHeartbeats 8000000 in
set_option maxRecDepth 100000 in
theorem Xau.calls (k : Nat) (A0 : Option Addr) (c0 : Nat) (l0 : List (S38)) (r : Bool) (w : World) (hr0 : Kd.C k38 w A0 l0.length l0) (hc0 : l0.length ≤ c0) (h : Xau.f k l0 = some r) :
  Calls Try.prog 74 #[.slice A0 l0.length c0, .func (.func 31) #[] #[]] w fun e w' => e = .returned (.bool r) ∧ Below w.heap.size w w' := by
 have hu38 := Try.underlying38
 have HR0 := zq hr0
 have HC0 := zq hc0
 clear hr0 hc0
 have HB := zq (Below.refl w.heap.size w)
 unfold Xau.f at h
 have H := h
 clear h
 have H' := zq H
 clear H
 go_enter Try.func74, Try.ntmps74
 go_wp2
 go_loopg [9] k (fun kq v9 w' => ∃ (x9_1 : Int), v9 = .int .i64 x9_1 ∧ Aside0 (Xau.l0 kq l0 (l0.length : Int) x9_1 = some r) ∧ Aside0 (kq ≤ k) ∧ Aside0 (Below w.heap.size w w'))
 case atStart => exact ⟨(0), J4, H', ⟨Nat.le_refl _⟩, ⟨J0⟩⟩
 case round =>
  clear H'
  obtain ⟨x9_1, rfl, HA, HK1, HB⟩ := hrel
  cases gk with
  | zero => exact absurd HA.out (by simp [Xau.l0])
  | succ k1 =>
   have H := HA.out
   clear HA
   simp only [Xau.l0] at H
   refine yd H ?_ ?_ <;> clear H <;> rintro c2b0 H
   ·obtain rfl := yo H
    go_wp2
    go_ret
    exact ⟨J1, J0⟩
   refine yj H ?_; clear H; intro c3b0 H
   refine yj H ?_; clear H; intro c4b0 H
   refine yv H ?_; clear H; rintro t123 A5 H
   refine yB H ?_ ?_ <;> clear H <;> rintro rfl H
   ·obtain rfl := yo H
    obtain ⟨ad121, e121, hx121_0, hx121_1, p121, q121⟩ := rdD HR0.out HB.out x9_1
    cases e121
    go_wp2_with (first | ((with_reducible refine Xj (N := 6) rfl ?_); refine bxw 6 38 #[.int .i64 0, .int .i64 0] ?_; intro gb122 hg w10 hbox hb; have BK122 := zq (hbox); have GE122 := zq ((J22 : w.heap.size ≤ gb122)); replace HB := zq (Xe J0 hb); clear hb hbox hg; have Z11 := cz2 BK122.out) | ((with_reducible refine Xj (N := 15) rfl ?_); refine Xcj (some 15) rfl rfl Try.func31 J17 rfl #[.agg #[.int .i64 ((Xt l0 x9_1).f0), .int .i64 ((Xt l0 x9_1).f1)]] (.tmp 13) rfl rfl J3 ?_; (with_reducible refine (Xao.calls k1 ((Xt l0 x9_1).f0) ((Xt l0 x9_1).f1) false _ A5.out).mono ?_); rintro e w12 ⟨rfl, hb⟩; refine ⟨_, rfl, ?_⟩; replace HB := zq (Xe (zs1 GE122.out) hb); (try clear hb)))
    go_ret
    exact ⟨J1, J138⟩
   have H' := zq H
   clear H
   obtain ⟨ad121, e121, hx121_0, hx121_1, p121, q121⟩ := rdD HR0.out HB.out x9_1
   cases e121
   go_wp2_with (first | ((with_reducible refine Xj (N := 6) rfl ?_); refine bxw 6 38 #[.int .i64 0, .int .i64 0] ?_; intro gb122 hg w7 hbox hb; have BK122 := zq (hbox); have GE122 := zq ((J22 : w.heap.size ≤ gb122)); replace HB := zq (Xe J0 hb); clear hb hbox hg; have Z8 := cz2 BK122.out) | ((with_reducible refine Xj (N := 15) rfl ?_); refine Xcj (some 15) rfl rfl Try.func31 J17 rfl #[.agg #[.int .i64 ((Xt l0 x9_1).f0), .int .i64 ((Xt l0 x9_1).f1)]] (.tmp 13) rfl rfl J3 ?_; (with_reducible refine (Xao.calls k1 ((Xt l0 x9_1).f0) ((Xt l0 x9_1).f1) true _ A5.out).mono ?_); rintro e w9 ⟨rfl, hb⟩; refine ⟨_, rfl, ?_⟩; replace BK122 := zq (Xg (g := gb122) (o := .cells #[.int .i64 ((Xt l0 x9_1).f0), .int .i64 ((Xt l0 x9_1).f1)] 38 (0, 0)) (by (with_reducible repeat (first | refine Xd ?_ _ | refine Xf ?_ | refine Xb ?_ _)); refine Xk (cs := #[.int .i64 ((Xt l0 x9_1).f0), .int .i64 0]) ?_ 1 _ rfl; (with_reducible repeat (first | refine Xd ?_ _ | refine Xf ?_ | refine Xb ?_ _)); refine Xk (cs := #[.int .i64 0, .int .i64 0]) ?_ 0 _ rfl; (with_reducible repeat (first | refine Xd ?_ _ | refine Xf ?_ | refine Xb ?_ _)); exact BK122.out) hb); replace HB := zq (Xe (zs1 GE122.out) hb); (try clear hb)))
   go_roundg k1
   case measure => have := HK1.out; omega
   case rel => exact ⟨(wrap64 (x9_1 + 1)), J4, H', ⟨J84⟩, ⟨J138⟩⟩
end Go.Proofs.Ytecdklheppcihaa.HTightTells
