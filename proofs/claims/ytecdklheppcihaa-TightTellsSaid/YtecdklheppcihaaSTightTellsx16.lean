/- Words and walks, shortened by a program: what this claim's functions answer, and that other memory stays. -/
import Derived.Test.YtecdklheppcihaaSTightTellsx0
import Derived.Test.YtecdklheppcihaaSTightTellsx1
namespace Go.Proofs.Ytecdklheppcihaa.HTightTells
open Go.RowKit Go.Proofs.YtecdklheppcihaaW.PrintWords Go.Proofs.YtecdklheppcihaaW.PrintLast Go.Proofs.YtecdklheppcihaaW.PrintMore
attribute [local go_sem] Xbp Xbn Xbu Xbt Xbg Xbf Xbo Xbm
set_option linter.unusedVariables false
set_option linter.unusedSimpArgs false
attribute [local go_sem high] eqA38
def Xay.l0 : Nat → Int → Int → Option (Int × Int × Bool)
 | 0, _, _ => none
 | k + 1, x594000, x594001 => if (Int.tmod x594000 10) = 0 then (if x594001 ≤ 32767 then (Xay.l0 k (wrap64 (Int.tdiv x594000 10)) (wrap64 (x594001 + 1))) else (if x594001 < (-32768) then (some (0, 0, false)) else (if x594001 > 32767 then (some (0, 0, false)) else (some (x594000, x594001, true))))) else (if x594001 < (-32768) then (some (0, 0, false)) else (if x594001 > 32767 then (some (0, 0, false)) else (some (x594000, x594001, true))))
def Xay.f (k : Nat) (a0_0 : Int) (a0_1 : Int) : Option (Int × Int × Bool) := if a0_0 = 0 then (some (0, 0, true)) else (Xay.l0 k a0_0 a0_1)
set_option maxHeartbeats 8000000 in
set_option maxRecDepth 100000 in
theorem Xay.calls (k : Nat) (a0_0 : Int) (a0_1 : Int) (r1 : Int) (r2 : Int) (r3 : Bool) (w : World) (h : Xay.f k a0_0 a0_1 = some (r1, r2, r3)) :
  Calls Try.prog 60 #[.agg #[.int .i64 a0_0, .int .i64 a0_1]] w fun e w' => e = .returned (.tuple #[.agg #[.int .i64 r1, .int .i64 r2], .bool r3]) ∧ Below w.heap.size w w' := by
 have hu38 := Try.underlying38
 have HB := zq (Below.refl w.heap.size w)
 unfold Xay.f at h
 have H := h
 clear h
 refine yF H ?_ ?_ <;> clear H <;> rintro ⟨c2b0, c2b1, c2⟩ H
 ·clear c2
  obtain ⟨rfl, rfl, rfl⟩ := yp3 H
  go_enter Try.func60, Try.ntmps60
  go_wp2_with (first | ((with_reducible refine Xj (N := 1) rfl ?_); refine bxw 1 38 #[.int .i64 a0_0, .int .i64 a0_1] ?_; intro gb593 hg w3 hbox hb; have BK593 := zq (hbox); have GE593 := zq ((J22 : w.heap.size ≤ gb593)); replace HB := zq (Xe J0 hb); clear hb hbox hg) | ((with_reducible refine Xj (N := 2) rfl ?_); refine bxw 2 38 #[.int .i64 0, .int .i64 0] ?_; intro gb594 hg w4 hbox hb; have BK594 := zq (hbox); have GE594 := zq ((by rw [hg]; exact (Xc (zs1 GE593.out)) : w.heap.size ≤ gb594)); replace HB := zq (Xe (zs1 GE593.out) hb); have NB593_594 := zq ((J157 : gb593 ≠ gb594)); have NB594_593 := zq ((J158 : gb594 ≠ gb593)); replace BK593 := zq (Xg (zk BK593.out) hb); clear hb hbox hg; have hnb5 := NB593_594.out; have hnc5 := NB594_593.out; have Z6 := cz2 BK593.out; have Z7 := cz2 BK594.out))
  refine bodyPost_ret (Xa6 rfl _ _ gb594 38 #[.int .i64 0, .int .i64 0] (0, 0) _ rfl J21 Try.underlying38 rfl J17) rfl ?_
  exact ⟨J1, J24⟩
 have H' := zq H
 clear H
 go_enter Try.func60, Try.ntmps60
 go_wp2_with (first | ((with_reducible refine Xj (N := 1) rfl ?_); refine bxw 1 38 #[.int .i64 a0_0, .int .i64 a0_1] ?_; intro gb593 hg w8 hbox hb; have BK593 := zq (hbox); have GE593 := zq ((J22 : w.heap.size ≤ gb593)); replace HB := zq (Xe J0 hb); clear hb hbox hg) | ((with_reducible refine Xj (N := 2) rfl ?_); refine bxw 2 38 #[.int .i64 0, .int .i64 0] ?_; intro gb594 hg w9 hbox hb; have BK594 := zq (hbox); have GE594 := zq ((by rw [hg]; exact (Xc (zs1 GE593.out)) : w.heap.size ≤ gb594)); replace HB := zq (Xe (zs1 GE593.out) hb); have NB593_594 := zq ((J157 : gb593 ≠ gb594)); have NB594_593 := zq ((J158 : gb594 ≠ gb593)); replace BK593 := zq (Xg (zk BK593.out) hb); clear hb hbox hg; have hnb10 := NB593_594.out; have hnc10 := NB594_593.out; have Z11 := cz2 BK593.out))
 go_loopg [] k (fun kq w' => ∃ (x594000_1 : Int) (x594001_1 : Int), Aside0 (Xay.l0 kq x594000_1 x594001_1 = some (r1, r2, r3)) ∧ Aside0 (kq ≤ k) ∧ Aside0 (w'.heap[gb593]? = some (.cells #[.int .i64 x594000_1, .int .i64 x594001_1] 38 (0, 0))) ∧ Aside0 (w'.heap[gb594]? = some (.cells #[.int .i64 0, .int .i64 0] 38 (0, 0))) ∧ Aside0 (Below w.heap.size w w'))
 case atStart => exact ⟨(a0_0), (a0_1), H', ⟨Nat.le_refl _⟩, ⟨by (with_reducible repeat (first | refine Xd ?_ _ | refine Xf ?_ | refine Xb ?_ _)); exact BK593.out⟩, ⟨by (with_reducible repeat (first | refine Xd ?_ _ | refine Xf ?_ | refine Xb ?_ _)); exact BK594.out⟩, ⟨J24⟩⟩
 case round =>
  clear H'
  try clear c2
  try clear c2b0
  try clear c2b1
  try clear Z11
  obtain ⟨x594000_1, x594001_1, HA, HK1, BK593, BK594, HB⟩ := hrel
  cases gk with
  | zero => exact absurd HA.out (by simp [Xay.l0])
  | succ k1 =>
   have H := HA.out
   clear HA
   simp only [Xay.l0] at H
   refine yE H ?_ ?_ <;> clear H <;> rintro ⟨c12b0, c12b1, c12⟩ H
   ·refine yD H ?_ ?_ <;> clear H <;> rintro c27b0 H
    ·obtain ⟨rfl, rfl, rfl⟩ := yp3 H
     have hnb28 := NB593_594.out
     have hnc28 := NB594_593.out
     have Z29 := cz2 BK593.out
     have Z30 := cz2 BK594.out
     go_wp2
     refine bodyPost_ret (Xa6 rfl _ _ gb594 38 #[.int .i64 0, .int .i64 0] (0, 0) _ rfl J21 Try.underlying38 rfl J17) rfl ?_
     exact ⟨J1, J24⟩
    ·refine yD H ?_ ?_ <;> clear H <;> rintro c31b0 H
     ·obtain ⟨rfl, rfl, rfl⟩ := yp3 H
      have hnb32 := NB593_594.out
      have hnc32 := NB594_593.out
      have Z33 := cz2 BK593.out
      have Z34 := cz2 BK594.out
      go_wp2
      refine bodyPost_ret (Xa6 rfl _ _ gb594 38 #[.int .i64 0, .int .i64 0] (0, 0) _ rfl J21 Try.underlying38 rfl J17) rfl ?_
      exact ⟨J1, J24⟩
     ·obtain ⟨rfl, rfl, rfl⟩ := yp3 H
      have hnb35 := NB593_594.out
      have hnc35 := NB594_593.out
      have Z36 := cz2 BK593.out
      have Z37 := cz2 BK594.out
      go_wp2
      refine bodyPost_ret (Xa6 rfl _ _ gb594 38 #[.int .i64 x594000_1, .int .i64 x594001_1] (0, 0) _ rfl J82 Try.underlying38 rfl J17) rfl ?_
      exact ⟨J1, J24⟩
   clear c12
   refine yD H ?_ ?_ <;> clear H <;> rintro c13b0 H
   ·have H' := zq H
    clear H
    have hnb14 := NB593_594.out
    have hnc14 := NB594_593.out
    have Z15 := cz2 BK593.out
    go_wp2
    go_roundg k1
    case measure => have := HK1.out; omega
    case rel => exact ⟨(wrap64 (Int.tdiv x594000_1 10)), (wrap64 (x594001_1 + 1)), H', ⟨J84⟩, ⟨by (with_reducible repeat (first | refine Xd ?_ _ | refine Xf ?_ | refine Xb ?_ _)); refine Xk (cs := #[.int .i64 (wrap64 (Int.tdiv x594000_1 10)), .int .i64 x594001_1]) ?_ 1 _ rfl; (with_reducible repeat (first | refine Xd ?_ _ | refine Xf ?_ | refine Xb ?_ _)); refine Xk (cs := #[.int .i64 x594000_1, .int .i64 x594001_1]) ?_ 0 _ rfl; (with_reducible repeat (first | refine Xd ?_ _ | refine Xf ?_ | refine Xb ?_ _)); exact BK593.out⟩, ⟨by (with_reducible repeat (first | refine Xd ?_ _ | refine Xf ?_ | refine Xb ?_ _)); refine Xab ?_ NB594_593.out _; (with_reducible repeat (first | refine Xd ?_ _ | refine Xf ?_ | refine Xb ?_ _)); refine Xab ?_ NB594_593.out _; (with_reducible repeat (first | refine Xd ?_ _ | refine Xf ?_ | refine Xb ?_ _)); exact BK594.out⟩, ⟨J24⟩⟩
   refine yD H ?_ ?_ <;> clear H <;> rintro c16b0 H
   ·obtain ⟨rfl, rfl, rfl⟩ := yp3 H
    have hnb17 := NB593_594.out
    have hnc17 := NB594_593.out
    have Z18 := cz2 BK593.out
    have Z19 := cz2 BK594.out
    go_wp2
    refine bodyPost_ret (Xa6 rfl _ _ gb594 38 #[.int .i64 0, .int .i64 0] (0, 0) _ rfl J21 Try.underlying38 rfl J17) rfl ?_
    exact ⟨J1, J24⟩
   refine yd H ?_ ?_ <;> clear H <;> rintro c20b0 H
   ·obtain ⟨rfl, rfl, rfl⟩ := yp3 H
    have hnb24 := NB593_594.out
    have hnc24 := NB594_593.out
    have Z25 := cz2 BK593.out
    have Z26 := cz2 BK594.out
    go_wp2
    refine bodyPost_ret (Xa6 rfl _ _ gb594 38 #[.int .i64 x594000_1, .int .i64 x594001_1] (0, 0) _ rfl J82 Try.underlying38 rfl J17) rfl ?_
    exact ⟨J1, J24⟩
   obtain ⟨rfl, rfl, rfl⟩ := yp3 H
   have hnb21 := NB593_594.out
   have hnc21 := NB594_593.out
   have Z22 := cz2 BK593.out
   have Z23 := cz2 BK594.out
   go_wp2
   refine bodyPost_ret (Xa6 rfl _ _ gb594 38 #[.int .i64 0, .int .i64 0] (0, 0) _ rfl J21 Try.underlying38 rfl J17) rfl ?_
   exact ⟨J1, J24⟩
def Xar.f (k : Nat) (a0_0 : Int) (a0_1 : Int) : Option (Bool) := (Xay.f k a0_0 a0_1).bind fun bt596 => (if bt596.2.2 = true then (some (bt596.1 == a0_0 && (bt596.2.1 == a0_1))) else (some false))
set_option maxHeartbeats 8000000 in
set_option maxRecDepth 100000 in
theorem Xar.calls (k : Nat) (a0_0 : Int) (a0_1 : Int) (r : Bool) (w : World) (h : Xar.f k a0_0 a0_1 = some r) :
  Calls Try.prog 40 #[.agg #[.int .i64 a0_0, .int .i64 a0_1]] w fun e w' => e = .returned (.bool r) ∧ Below w.heap.size w w' := by
 have hu38 := Try.underlying38
 have HB := zq (Below.refl w.heap.size w)
 unfold Xar.f at h
 have H := h
 clear h
 refine yv H ?_; clear H; rintro ⟨t596, t597, t598⟩ A2 H
 dsimp only at H
 refine yC H ?_ ?_ <;> clear H <;> rintro rfl H
 ·obtain rfl := yo H
  go_enter Try.func40, Try.ntmps40
  go_wp2_with (first | ((with_reducible refine Xj (N := 1) rfl ?_); refine bxw 1 38 #[.int .i64 a0_0, .int .i64 a0_1] ?_; intro gb595 hg w4 hbox hb; have BK595 := zq (hbox); have GE595 := zq ((J22 : w.heap.size ≤ gb595)); replace HB := zq (Xe J0 hb); clear hb hbox hg; have Z5 := cz2 BK595.out) | ((with_reducible refine Xi (f := 60) rfl ?_); refine gL 7 Try.func60 #[.agg #[.int .i64 a0_0, .int .i64 a0_1]] (Xay.calls k a0_0 a0_1 t596 t597 true _ A2.out) ?_; rintro e w6 ⟨rfl, hb⟩; refine ⟨_, rfl, ?_⟩; replace BK595 := zq (Xg (zk BK595.out) hb); replace HB := zq (Xe (zs1 GE595.out) hb); (try clear hb)) | ((with_reducible refine Xj (N := 3) rfl ?_); refine bxw 3 38 #[.int .i64 0, .int .i64 0] ?_; intro gb599 hg w7 hbox hb; have BK599 := zq (hbox); have GE599 := zq ((by rw [hg]; exact (Xc (zs1 GE595.out)) : w.heap.size ≤ gb599)); replace HB := zq (Xe (zs1 GE595.out) hb); have NB595_599 := zq ((J159 : gb595 ≠ gb599)); have NB599_595 := zq ((J160 : gb599 ≠ gb595)); replace BK595 := zq (Xg (zk BK595.out) hb); clear hb hbox hg; have hnb8 := NB599_595.out; have hnc8 := NB595_599.out; have Z9 := cz2 BK599.out; have Z10 := cz2 BK595.out))
  go_ret
  exact ⟨J1, J129⟩
 obtain rfl := yo H
 go_enter Try.func40, Try.ntmps40
 go_wp2_with (first | ((with_reducible refine Xj (N := 1) rfl ?_); refine bxw 1 38 #[.int .i64 a0_0, .int .i64 a0_1] ?_; intro gb595 hg w11 hbox hb; have BK595 := zq (hbox); have GE595 := zq ((J22 : w.heap.size ≤ gb595)); replace HB := zq (Xe J0 hb); clear hb hbox hg; have Z12 := cz2 BK595.out) | ((with_reducible refine Xi (f := 60) rfl ?_); refine gL 7 Try.func60 #[.agg #[.int .i64 a0_0, .int .i64 a0_1]] (Xay.calls k a0_0 a0_1 t596 t597 false _ A2.out) ?_; rintro e w13 ⟨rfl, hb⟩; refine ⟨_, rfl, ?_⟩; replace BK595 := zq (Xg (zk BK595.out) hb); replace HB := zq (Xe (zs1 GE595.out) hb); (try clear hb)) | ((with_reducible refine Xj (N := 3) rfl ?_); refine bxw 3 38 #[.int .i64 0, .int .i64 0] ?_; intro gb599 hg w14 hbox hb; have BK599 := zq (hbox); have GE599 := zq ((by rw [hg]; exact (Xc (zs1 GE595.out)) : w.heap.size ≤ gb599)); replace HB := zq (Xe (zs1 GE595.out) hb); have NB595_599 := zq ((J159 : gb595 ≠ gb599)); have NB599_595 := zq ((J160 : gb599 ≠ gb595)); clear hb hbox hg; have hnb15 := NB599_595.out; have hnc15 := NB595_599.out; have Z16 := cz2 BK599.out))
 go_ret
 exact ⟨J1, J129⟩
end Go.Proofs.Ytecdklheppcihaa.HTightTells
