/- What the Go functions of this claim answer, told as functions of numbers and lists, and that other memory stays as it was: words and walks, shortened by a program. -/
import Derived.Test.YtfjhiiaahbjaiaaDoorSSystemFirstx0
import Derived.Test.YtfjhiiaahbjaiaaDoorSSystemFirstx8
namespace Go.Proofs.YtfjhiiaahbjaiaaDoor.HSystemFirst
open Go.RowKit Go.Proofs.YtfjhiiaahbjaiaaDoorW.PrintWords Go.Proofs.YtfjhiiaahbjaiaaDoorW.PrintLast Go.Proofs.YtfjhiiaahbjaiaaDoorW.PrintMore
attribute [local go_sem] Xby Xbw Xcb Xca Xbp Xbo Xbx Xbv
set_option linter.unusedVariables false
set_option linter.unusedSimpArgs false
def Xaf.j0 : Nat → Int → Bool → Option (Bool)
 | 0, _, _ => none
 | k + 1, x0, x3 => if x3 = true then (some true) else (if 57343 < x0 then (if x0 ≤ 1114111 then (some true) else (some false)) else (some false))
def Xaf.f (k : Nat) (a0 : Int) : Option (Bool) := if 0 ≤ a0 then (Xaf.j0 k a0 (decide (a0 < 55296))) else (Xaf.j0 k a0 false)
theorem Xaf.mono_l : ∀ k, (∀ y0 y1, LeO (Xaf.j0 k y0 y1) (Xaf.j0 (k + 1) y0 y1))
 | 0 => fun _ _ r h => by simp [Xaf.j0] at h
 | k + 1 => by
  have ih0 := Xaf.mono_l k
  ·intro y0 y1
   unfold Xaf.j0
   exact mz0
theorem Xaf.mono : ∀ a0 k, LeO (Xaf.f k a0) (Xaf.f (k + 1) a0) := by
 intro a0 k
 have ih0 := Xaf.mono_l k
 unfold Xaf.f
 exact mz0
set_option maxHeartbeats 8000000 in
set_option maxRecDepth 100000 in
theorem Xaf.calls (k : Nat) (a0 : Int) (r : Bool) (w : World) (h : Xaf.f k a0 = some r) :
  Calls Tryd.prog 96 #[.int .i32 a0] w fun e w' => e = .returned (.bool r) ∧ Drawn0 w w' := by
 unfold Xaf.f at h
 have H := h
 clear h
 have HC2 := zq H
 clear H
 go_enter Tryd.func96, Tryd.ntmps96
 go_upto_region 1 with (fail)
 go_cut [3] (fun v3 wc => ∃ (kq : Nat) (x3_1 : Bool), v3 = .bool x3_1 ∧ Aside0 (Xaf.j0 kq a0 x3_1 = some r) ∧ Aside0 (kq ≤ k) ∧ Drawn0 w wc)
 case first =>
  have H := HC2.out
  clear HC2
  refine yd H ?_ ?_ <;> clear H <;> rintro c3b0 H
  ·(first | rw [c3b0] | (simp only [Xbd, Xbh]; rw [c3b0]) | skip)
   have H' := zq H
   clear H
   go_wp2
   go_meet
   case rel => exact ⟨_, (false), J4, H', ⟨J31⟩, J5⟩
  (first | rw [c3b0] | (simp only [Xbd, Xbh]; rw [c3b0]) | skip)
  have H' := zq H
  clear H
  go_wp2
  go_meet
  case rel => exact ⟨_, (decide (a0 < 55296)), J4, H', ⟨J31⟩, J5⟩
 case rest =>
  clear HC2
  obtain ⟨kq, x3_1, rfl, HA, HJ1, ⟨mc1, rfl⟩⟩ := hcut
  cases kq with
  | zero => exact absurd HA.out (by simp [Xaf.j0])
  | succ kj1 =>
   have H := HA.out
   clear HA
   simp only [Xaf.j0] at H
   refine yC H ?_ ?_ <;> clear H <;> rintro rfl H
   ·obtain rfl := yo H
    go_wp2
    go_ret
    exact ⟨J4, J5⟩
   refine yd H ?_ ?_ <;> clear H <;> rintro c5b0 H
   ·obtain rfl := yo H
    go_wp2
    go_ret
    exact ⟨J4, J5⟩
   refine yd H ?_ ?_ <;> clear H <;> rintro c6b0 H
   ·obtain rfl := yo H
    go_wp2
    go_ret
    exact ⟨J4, J5⟩
   obtain rfl := yo H
   go_wp2
   go_ret
   exact ⟨J4, J5⟩
def Xbn.f (k : Nat) (a0 : Int) (a1 : Int) : Option (Bool) := if a0 = 1 then (some ((Go.bits .andNot .i64 a1 1) == 0)) else (if a0 = 2 then (some true) else (if a0 = 3 then (if a1 = (wrap64 (wrap32 (a1))) then ((Xaf.f k (wrap32 (a1))).bind fun t229 => (some t229)) else (some false)) else (some false)))
theorem Xbn.mono : ∀ a0 a1 k, LeO (Xbn.f k a0 a1) (Xbn.f (k + 1) a0 a1) := by
 intro a0 a1 k
 unfold Xbn.f
 have im0 := @Xaf.mono
 exact mz3
set_option maxHeartbeats 8000000 in
set_option maxRecDepth 100000 in
theorem Xbn.calls (k : Nat) (a0 : Int) (a1 : Int) (r : Bool) (w : World) (h : Xbn.f k a0 a1 = some r) :
  Calls Tryd.prog 89 #[.int .i64 a0, .int .i64 a1] w fun e w' => e = .returned (.bool r) ∧ Drawn0 w w' := by
 unfold Xbn.f at h
 have H := h
 clear h
 refine yF H ?_ ?_ <;> clear H <;> rintro ⟨c3b0, c3b1, c3⟩ H
 ·clear c3
  obtain rfl := yo H
  go_enter Tryd.func89, Tryd.ntmps89
  go_wp2
  go_ret
  exact ⟨J4, J5⟩
 refine yF H ?_ ?_ <;> clear H <;> rintro ⟨c4b0, c4b1, c4⟩ H
 ·clear c4
  obtain rfl := yo H
  go_enter Tryd.func89, Tryd.ntmps89
  go_wp2
  go_ret
  exact ⟨J4, J5⟩
 refine yE H ?_ ?_ <;> clear H <;> rintro ⟨c5b0, c5b1, c5⟩ H
 ·obtain rfl := yo H
  go_enter Tryd.func89, Tryd.ntmps89
  go_wp2
  go_ret
  exact ⟨J4, J5⟩
 clear c5
 refine yE H ?_ ?_ <;> clear H <;> rintro ⟨c6b0, c6b1, c6⟩ H
 ·obtain rfl := yo H
  go_enter Tryd.func89, Tryd.ntmps89
  go_wp2
  go_ret
  exact ⟨J4, J5⟩
 clear c6
 refine yv H ?_; clear H; rintro t229 A7 H
 obtain rfl := yo H
 go_enter Tryd.func89, Tryd.ntmps89
 go_wp2_with (first | (go_at_call 96; (with_reducible refine (Xaf.calls k (wrap32 (a1)) t229 _ A7.out).mono ?_); rintro e w' ⟨rfl, ⟨nd, rfl⟩⟩))
 go_ret
 exact ⟨J4, J5⟩
def Xbr.f (k : Nat) (a0 : Int) (a1 : Int) : Option (Bool) := (Xbn.f k a1 a0).bind fun t230 => (some t230)
theorem Xbr.mono : ∀ a0 a1 k, LeO (Xbr.f k a0 a1) (Xbr.f (k + 1) a0 a1) := by
 intro a0 a1 k
 unfold Xbr.f
 have im0 := @Xbn.mono
 exact mz3
set_option maxHeartbeats 8000000 in
set_option maxRecDepth 100000 in
theorem Xbr.calls (k : Nat) (a0 : Int) (a1 : Int) (gb_ : Nat) (r : Bool) (w : World) (hgb_ : w.cell? ⟨gb_, 0, none⟩ = some (.int .i64 a1)) (h : Xbr.f k a0 a1 = some r) :
  Calls Tryd.prog 88 #[.int .i64 a0, .pointer (some ⟨gb_, 0, none⟩)] w fun e w' => e = .returned (.bool r) ∧ Drawn0 w w' := by
 unfold Xbr.f at h
 have H := h
 clear h
 refine yv H ?_; clear H; rintro t230 A3 H
 obtain rfl := yo H
 go_enter Tryd.func88, Tryd.ntmps88
 go_wp2_with (first | ((with_reducible refine Xg (f := 89) rfl ?_); refine Xt (some 7) rfl rfl Tryd.func89 J8 rfl #[.int .i64 a1, .int .i64 a0] rfl J1 ?_; (with_reducible refine (Xbn.calls k a1 a0 t230 _ A3.out).mono ?_); rintro e w' ⟨rfl, ⟨nd, rfl⟩⟩; refine ⟨_, rfl, ?_⟩))
 go_ret
 exact ⟨J4, J5⟩
theorem goesCv_ {P : Program} {ops : Array Oper} {Q : Exit → Act → World → Prop} {rest : List Oper} {oi : Oper} {a : Act} {w : World} (N : Option Tmp) (hd : oi.dst = N) (hg : oi.guard = none) {f : FuncId} {fn : Func} {as_ : Array Operand} {ts : Array TypeId} (hf : P.funcs[f]? = some fn) (hname : (fn.name == "runtime.NumGoroutine") = false) (hb : fn.body.isSome = true) (args cap all : Array Value) (hall : args ++ cap = all) (x : Operand)
  (hop : oi.op = .call { callee := .value x, args := as_, argTypes := ts }) (hx : a.eval x = .func (.func f) #[] cap) (hargs : as_.map a.eval = args)
  (h : Calls P f all w fun e w' => ∃ v, e = .returned v ∧ wpList P ops Q rest (a.put N v) w') : wpList P ops Q (oi :: rest) a w := by
 subst hall
 refine wpList_plain hg fun K hK => ?_
 have he := enters_ hf hname hb (args ++ cap) w
 have hrun : (execOp a.eval oi).run P w = .ok (.enter f (args ++ cap)) w := by
  unfold execOp
  simp [hop, hx, resolve, Deferred.ofValue, invoke, hargs, he]
 unfold Oper.wp
 rw [hrun, Oper.upon_enter]
 refine h.mono fun e w'' hh => ?_
 obtain ⟨v, rfl, hk⟩ := hh
 subst hd
 exact hK _ _ hk
def X5.l0 : Nat → Int → List Int → Int → Int → Option (Bool)
 | 0, _, _, _, _ => none
 | k + 1, x1, x7, x8, x9 => if x9 < x8 then (if 0 ≤ x9 then (if x9 < (x7.length : Int) then ((Xbr.f k (rd x7 x9) x1).bind fun t232 => (if t232 = true then (X5.l0 k x1 x7 x8 (wrap64 (x9 + 1))) else (some true))) else (none)) else (none)) else (some false)
def X5.f (k : Nat) (l0 : List Int) (a1 : Int) : Option (Bool) := X5.l0 k a1 l0 (l0.length : Int) 0
theorem X5.mono_l : ∀ k, (∀ y0 y1 y2 y3, LeO (X5.l0 k y0 y1 y2 y3) (X5.l0 (k + 1) y0 y1 y2 y3))
 | 0 => fun _ _ _ _ r h => by simp [X5.l0] at h
 | k + 1 => by
  have ih0 := X5.mono_l k
  ·intro y0 y1 y2 y3
   unfold X5.l0
   have im0 := @Xbr.mono
   exact mz3
theorem X5.mono : ∀ a0 a1 k, LeO (X5.f k a0 a1) (X5.f (k + 1) a0 a1) := by
 intro a0 a1 k
 have ih0 := X5.mono_l k
 unfold X5.f
 have im0 := @Xbr.mono
 exact mz3
set_option maxHeartbeats 8000000 in
set_option maxRecDepth 100000 in
theorem X5.calls (k : Nat) (A0 : Option Addr) (c0 : Nat) (l0 : List Int) (a1 : Int) (gb_ : Nat) (r : Bool) (w : World) (hgb_ : w.cell? ⟨gb_, 0, none⟩ = some (.int .i64 a1)) (hr0 : Kd.C (Kd.int .i64) w A0 l0.length l0) (hc0 : l0.length ≤ c0) (h : X5.f k l0 a1 = some r) :
  Calls Tryd.prog 90 #[.slice A0 l0.length c0, .func (.func 88) #[] #[.pointer (some ⟨gb_, 0, none⟩)]] w fun e w' => e = .returned (.bool r) ∧ Drawn0 w w' := by
 have HR0 := zq hr0
 have HC0 := zq hc0
 clear hr0 hc0
 unfold X5.f at h
 have H := h
 clear h
 have H' := zq H
 clear H
 go_enter Tryd.func90, Tryd.ntmps90
 go_wp2
 go_loopg [9] k (fun kq v9 w' => ∃ (x9_1 : Int), v9 = .int .i64 x9_1 ∧ Aside0 (X5.l0 kq a1 l0 (l0.length : Int) x9_1 = some r) ∧ Aside0 (kq ≤ k) ∧ Drawn0 w w')
 case atStart => exact ⟨(0), J4, H', ⟨Nat.le_refl _⟩, J5⟩
 case round =>
  clear H'
  obtain ⟨x9_1, rfl, HA, HK1, ⟨m1, rfl⟩⟩ := hrel
  cases gk with
  | zero => exact absurd HA.out (by simp [X5.l0])
  | succ k1 =>
   have H := HA.out
   clear HA
   simp only [X5.l0] at H
   refine yd H ?_ ?_ <;> clear H <;> rintro c3b0 H
   ·obtain rfl := yo H
    go_wp2
    go_ret
    exact ⟨J4, J5⟩
   refine yj H ?_; clear H; intro c4b0 H
   refine yj H ?_; clear H; intro c5b0 H
   refine yv H ?_; clear H; rintro t232 A6 H
   refine yB H ?_ ?_ <;> clear H <;> rintro rfl H
   ·obtain rfl := yo H
    have p231 : 0 ≤ (x9_1 : Int) := of_decide_eq_true J3
    have q231 : x9_1 < (l0.length : Int) := of_decide_eq_true J3
    obtain ⟨ad231, e231, hx231_0⟩ := Kd.at_int HR0.out x9_1 p231 q231
    cases e231
    replace p231 := eq_true p231
    replace q231 := eq_true q231
    go_wp2_with (first | ((with_reducible refine Xk (N := 15) rfl ?_); refine goesCv_ (some 15) rfl rfl Tryd.func88 J8 rfl #[.int .i64 (rd l0 x9_1)] #[.pointer (some ⟨gb_, 0, none⟩)] #[.int .i64 (rd l0 x9_1), .pointer (some ⟨gb_, 0, none⟩)] rfl (.tmp 13) rfl rfl J1 ?_; (with_reducible refine (Xbr.calls k1 (rd l0 x9_1) a1 gb_ false _ (by first | exact hgb_ | simpa using hgb_) A6.out).mono ?_); rintro e w' ⟨rfl, ⟨nd, rfl⟩⟩; refine ⟨_, rfl, ?_⟩))
    go_ret
    exact ⟨J4, J5⟩
   have H' := zq H
   clear H
   have p231 : 0 ≤ (x9_1 : Int) := of_decide_eq_true J3
   have q231 : x9_1 < (l0.length : Int) := of_decide_eq_true J3
   obtain ⟨ad231, e231, hx231_0⟩ := Kd.at_int HR0.out x9_1 p231 q231
   cases e231
   replace p231 := eq_true p231
   replace q231 := eq_true q231
   go_wp2_with (first | ((with_reducible refine Xk (N := 15) rfl ?_); refine goesCv_ (some 15) rfl rfl Tryd.func88 J8 rfl #[.int .i64 (rd l0 x9_1)] #[.pointer (some ⟨gb_, 0, none⟩)] #[.int .i64 (rd l0 x9_1), .pointer (some ⟨gb_, 0, none⟩)] rfl (.tmp 13) rfl rfl J1 ?_; (with_reducible refine (Xbr.calls k1 (rd l0 x9_1) a1 gb_ true _ (by first | exact hgb_ | simpa using hgb_) A6.out).mono ?_); rintro e w' ⟨rfl, ⟨nd, rfl⟩⟩; refine ⟨_, rfl, ?_⟩))
   go_roundg k1
   case measure => have := HK1.out; omega
   case rel => exact ⟨(wrap64 (x9_1 + 1)), J4, H', ⟨J86⟩, J5⟩
def Xav.l0 : Nat → List (S40) → Int → Int → Option (Bool)
 | 0, _, _, _ => none
 | k + 1, x7, x8, x9 => if x9 < x8 then (if 0 ≤ x9 then (if x9 < (x7.length : Int) then ((Xae.f k ((Xv x7 x9).f0) ((Xv x7 x9).f1)).bind fun t235 => (if t235 = true then (Xav.l0 k x7 x8 (wrap64 (x9 + 1))) else (some true))) else (none)) else (none)) else (some false)
def Xav.f (k : Nat) (l0 : List (S40)) : Option (Bool) := Xav.l0 k l0 (l0.length : Int) 0
theorem Xav.mono_l : ∀ k, (∀ y0 y1 y2, LeO (Xav.l0 k y0 y1 y2) (Xav.l0 (k + 1) y0 y1 y2))
 | 0 => fun _ _ _ r h => by simp [Xav.l0] at h
 | k + 1 => by
  have ih0 := Xav.mono_l k
  ·intro y0 y1 y2
   unfold Xav.l0
   have im0 := @Xae.mono
   exact mz3
theorem Xav.mono : ∀ a0 k, LeO (Xav.f k a0) (Xav.f (k + 1) a0) := by
 intro a0 k
 have ih0 := Xav.mono_l k
 unfold Xav.f
 have im0 := @Xae.mono
 exact mz3
set_option maxHeartbeats 8000000 in
set_option maxRecDepth 100000 in
theorem Xav.calls (k : Nat) (A0 : Option Addr) (c0 : Nat) (l0 : List (S40)) (r : Bool) (w : World) (hr0 : Kd.C k40 w A0 l0.length l0) (hc0 : l0.length ≤ c0) (h : Xav.f k l0 = some r) :
  Calls Tryd.prog 91 #[.slice A0 l0.length c0, .func (.func 28) #[] #[]] w fun e w' => e = .returned (.bool r) ∧ Below w.heap.size w w' := by
 have hu40 := Tryd.underlying40
 have HR0 := zq hr0
 have HC0 := zq hc0
 clear hr0 hc0
 have HB := zq (Below.refl w.heap.size w)
 unfold Xav.f at h
 have H := h
 clear h
 have H' := zq H
 clear H
 go_enter Tryd.func91, Tryd.ntmps91
 go_wp2
 go_loopg [9] k (fun kq v9 w' => ∃ (x9_1 : Int), v9 = .int .i64 x9_1 ∧ Aside0 (Xav.l0 kq l0 (l0.length : Int) x9_1 = some r) ∧ Aside0 (kq ≤ k) ∧ Aside0 (Below w.heap.size w w'))
 case atStart => exact ⟨(0), J4, H', ⟨Nat.le_refl _⟩, ⟨J0⟩⟩
 case round =>
  clear H'
  obtain ⟨x9_1, rfl, HA, HK1, HB⟩ := hrel
  cases gk with
  | zero => exact absurd HA.out (by simp [Xav.l0])
  | succ k1 =>
   have H := HA.out
   clear HA
   simp only [Xav.l0] at H
   refine yd H ?_ ?_ <;> clear H <;> rintro c2b0 H
   ·obtain rfl := yo H
    go_wp2
    go_ret
    exact ⟨J2, J0⟩
   refine yj H ?_; clear H; intro c3b0 H
   refine yj H ?_; clear H; intro c4b0 H
   refine yv H ?_; clear H; rintro t235 A5 H
   refine yB H ?_ ?_ <;> clear H <;> rintro rfl H
   ·obtain rfl := yo H
    have p233 : 0 ≤ (x9_1 : Int) := of_decide_eq_true J3
    have q233 : x9_1 < (l0.length : Int) := of_decide_eq_true J3
    obtain ⟨ad233, e233, hx233_0, hx233_1⟩ := Xcf HR0.out x9_1 p233 q233
    cases e233
    replace hx233_0 := yh HB hx233_0
    replace hx233_1 := yh HB hx233_1
    replace p233 := eq_true p233
    replace q233 := eq_true q233
    go_wp2_with (first | ((with_reducible refine Xk (N := 6) rfl ?_); refine bxw 6 40 #[.int .i64 0, .int .i64 0] ?_; intro gb234 hg w10 hbox hb; have BK234 := zq (hbox); have GE234 := zq ((J12 : w.heap.size ≤ gb234)); replace HB := zq (Xd J0 hb); clear hb hbox hg; obtain ⟨hcz11_0, hcz11_1, hfz11_0, hfz11_1⟩ := cz2 BK234.out) | ((with_reducible refine Xk (N := 15) rfl ?_); refine Xc2 (some 15) rfl rfl Tryd.func28 J8 rfl #[.agg #[.int .i64 ((Xv l0 x9_1).f0), .int .i64 ((Xv l0 x9_1).f1)]] (.tmp 13) rfl rfl J1 ?_; (with_reducible refine (Xae.calls k1 ((Xv l0 x9_1).f0) ((Xv l0 x9_1).f1) false _ A5.out).mono ?_); rintro e w12 ⟨rfl, hb⟩; refine ⟨_, rfl, ?_⟩; replace HB := zq (Xd (zs1 GE234.out) hb); (try clear hb)))
    go_ret
    exact ⟨J2, J130⟩
   have H' := zq H
   clear H
   have p233 : 0 ≤ (x9_1 : Int) := of_decide_eq_true J3
   have q233 : x9_1 < (l0.length : Int) := of_decide_eq_true J3
   obtain ⟨ad233, e233, hx233_0, hx233_1⟩ := Xcf HR0.out x9_1 p233 q233
   cases e233
   replace hx233_0 := yh HB hx233_0
   replace hx233_1 := yh HB hx233_1
   replace p233 := eq_true p233
   replace q233 := eq_true q233
   go_wp2_with (first | ((with_reducible refine Xk (N := 6) rfl ?_); refine bxw 6 40 #[.int .i64 0, .int .i64 0] ?_; intro gb234 hg w7 hbox hb; have BK234 := zq (hbox); have GE234 := zq ((J12 : w.heap.size ≤ gb234)); replace HB := zq (Xd J0 hb); clear hb hbox hg; obtain ⟨hcz8_0, hcz8_1, hfz8_0, hfz8_1⟩ := cz2 BK234.out) | ((with_reducible refine Xk (N := 15) rfl ?_); refine Xc2 (some 15) rfl rfl Tryd.func28 J8 rfl #[.agg #[.int .i64 ((Xv l0 x9_1).f0), .int .i64 ((Xv l0 x9_1).f1)]] (.tmp 13) rfl rfl J1 ?_; (with_reducible refine (Xae.calls k1 ((Xv l0 x9_1).f0) ((Xv l0 x9_1).f1) true _ A5.out).mono ?_); rintro e w9 ⟨rfl, hb⟩; refine ⟨_, rfl, ?_⟩; replace BK234 := zq (Xh (g := gb234) (o := .cells #[.int .i64 ((Xv l0 x9_1).f0), .int .i64 ((Xv l0 x9_1).f1)] 40 (0, 0)) (by (with_reducible repeat (first | refine Xc ?_ _ | refine Xe ?_ | refine Xb ?_ _)); refine Xj (cs := #[.int .i64 ((Xv l0 x9_1).f0), .int .i64 0]) ?_ 1 _ rfl; (with_reducible repeat (first | refine Xc ?_ _ | refine Xe ?_ | refine Xb ?_ _)); refine Xj (cs := #[.int .i64 0, .int .i64 0]) ?_ 0 _ rfl; (with_reducible repeat (first | refine Xc ?_ _ | refine Xe ?_ | refine Xb ?_ _)); exact BK234.out) hb); replace HB := zq (Xd (zs1 GE234.out) hb); (try clear hb)))
   go_roundg k1
   case measure => have := HK1.out; omega
   case rel => exact ⟨(wrap64 (x9_1 + 1)), J4, H', ⟨J86⟩, ⟨J130⟩⟩
end Go.Proofs.YtfjhiiaahbjaiaaDoor.HSystemFirst
