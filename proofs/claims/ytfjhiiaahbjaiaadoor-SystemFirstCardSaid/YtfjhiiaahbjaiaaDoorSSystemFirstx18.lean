/- What the Go functions of this claim answer, told as functions of numbers and lists, and that other memory stays as it was: words and walks, shortened by a program. -/
import Derived.Test.YtfjhiiaahbjaiaaDoorSSystemFirstx0
import Derived.Test.YtfjhiiaahbjaiaaDoorSSystemFirstx14
namespace Go.Proofs.YtfjhiiaahbjaiaaDoor.HSystemFirst
open Go.RowKit Go.Proofs.YtfjhiiaahbjaiaaDoorW.PrintWords Go.Proofs.YtfjhiiaahbjaiaaDoorW.PrintLast Go.Proofs.YtfjhiiaahbjaiaaDoorW.PrintMore
attribute [local go_sem] Xby Xbw Xcb Xca Xbp Xbo Xbx Xbv
set_option linter.unusedVariables false
set_option linter.unusedSimpArgs false
def Xbf.f (k : Nat) (l0 : List (S32)) : Option (Int × Int × Bool) := if 0 < (l0.length : Int) then (if (((Xa l0 0).f1).length : Int) > 0 then (some (0, 0, false)) else (if ((Xa l0 0).f0) = 4 then (if 0 < (((Xa l0 0).f3).length : Int) then (some ((Xv ((Xa l0 0).f3) 0).f0, (Xv ((Xa l0 0).f3) 0).f1, true)) else (none)) else (if ((Xa l0 0).f0) = 1 then (if 0 < (((Xa l0 0).f2).length : Int) then ((Xa4.f k (rd ((Xa l0 0).f2) 0)).bind fun bt480 => (some (bt480.1, bt480.2, true))) else (none)) else (if ((Xa l0 0).f0) = 2 then (if 0 < (((Xa l0 0).f2).length : Int) then ((Xa4.f k (rd ((Xa l0 0).f2) 0)).bind fun bt483 => (some (bt483.1, bt483.2, true))) else (none)) else (some (0, 0, false)))))) else (none)
theorem Xbf.mono : ∀ a0 k, LeO (Xbf.f k a0) (Xbf.f (k + 1) a0) := by
 intro a0 k
 unfold Xbf.f
 have im0 := @Xa4.mono
 exact mz3
set_option maxHeartbeats 8000000 in
set_option maxRecDepth 100000 in
theorem Xbf.calls (k : Nat) (A0 : Option Addr) (c0 : Nat) (l0 : List (S32)) (r1 : Int) (r2 : Int) (r3 : Bool) (w : World) (hr0 : Kd.C k32 w A0 l0.length l0) (hc0 : l0.length ≤ c0) (h : Xbf.f k l0 = some (r1, r2, r3)) :
  Calls Tryd.prog 17 #[.slice A0 l0.length c0] w fun e w' => e = .returned (.tuple #[.agg #[.int .i64 r1, .int .i64 r2], .bool r3]) ∧ Below w.heap.size w w' := by
 have hu40 := Tryd.underlying40
 have hu32 := Tryd.underlying32
 have HR0 := zq hr0
 have HC0 := zq hc0
 clear hr0 hc0
 have HB := zq (Below.refl w.heap.size w)
 unfold Xbf.f at h
 have H := h
 clear h
 refine yi H ?_; clear H; intro c2 H
 have c2b0 := decide_eq_true c2
 have c2b1 : decide (0 < l0.length) = true := decide_eq_true J35
 clear c2
 refine yu H ?_ ?_ <;> clear H <;> rintro c3 H
 ·have c3b0 : decide (0 < (((Xa l0 0).f1).length : Int)) = true := decide_eq_true c3
  have c3b1 : decide (0 < ((Xa l0 0).f1).length) = true := decide_eq_true J35
  clear c3
  obtain ⟨rfl, rfl, rfl⟩ := yp3 H
  go_enter Tryd.func17, Tryd.ntmps17
  go_wp2_with (first | ((with_reducible refine Xk (N := 2) rfl ?_); refine bxw 2 40 #[.int .i64 0, .int .i64 0] ?_; intro gb475 hg w4 hbox hb; have BK475 := zq (hbox); have GE475 := zq ((J12 : w.heap.size ≤ gb475)); replace HB := zq (Xd J0 hb); clear hb hbox hg; have p476 : 0 ≤ (0 : Int) := J35; have q476 : 0 < (l0.length : Int) := of_decide_eq_true J3; obtain ⟨ad476, A476_1, c476_1, A476_2, c476_2, A476_3, c476_3, e476, hx476_0, hx476_1, hx476_2, hx476_3, hl476_1, hi476_1, hl476_2, hi476_2, hl476_3, hi476_3⟩ := Xbz HR0.out 0 p476 q476; cases e476; have qi476 : (0 < l0.length) = True := eq_true J35; (try rw [show ((0 : Int)).toNat = 0 from rfl] at hx476_0); (try rw [show 0 * 4 = 0 from rfl] at hx476_0); (try rw [Addr.add_zero'] at hx476_0); (try rw [show ((0 : Int)).toNat = 0 from rfl] at hx476_1); (try rw [show 0 * 4 = 0 from rfl] at hx476_1); (try rw [Addr.add_zero'] at hx476_1); (try rw [show ((0 : Int)).toNat = 0 from rfl] at hx476_2); (try rw [show 0 * 4 = 0 from rfl] at hx476_2); (try rw [Addr.add_zero'] at hx476_2); (try rw [show ((0 : Int)).toNat = 0 from rfl] at hx476_3); (try rw [show 0 * 4 = 0 from rfl] at hx476_3); (try rw [Addr.add_zero'] at hx476_3); replace hx476_0 := yh HB hx476_0; replace hx476_1 := yh HB hx476_1; replace hx476_2 := yh HB hx476_2; replace hx476_3 := yh HB hx476_3; have HR476_1 := zq hi476_1; have HC476_1 := zq hl476_1; clear hi476_1 hl476_1; have HR476_2 := zq hi476_2; have HC476_2 := zq hl476_2; clear hi476_2 hl476_2; have HR476_3 := zq hi476_3; have HC476_3 := zq hl476_3; clear hi476_3 hl476_3; replace p476 := eq_true p476; replace q476 := eq_true q476) | ((with_reducible refine Xk (N := 4) rfl ?_); refine bxw 4 32 #[.int .i64 0, .slice none 0 0, .slice none 0 0, .slice none 0 0] ?_; intro gb477 hg w5 hbox hb; have BK477 := zq (hbox); have GW477 := zq ((J90 : w.heap.size ≤ gb477)); have GE477 := zq ((J90 : w.heap.size ≤ gb477)); replace HB := zq (Xd (zs1 GE475.out) hb); have NB475_477 := zq ((J80 : gb475 ≠ gb477)); have NB477_475 := zq ((J81 : gb477 ≠ gb475)); replace BK475 := zq (Xh (g := gb475) (o := .cells #[.int .i64 0, .int .i64 0] 40 (0, 0)) (zk BK475.out) hb); clear hb hbox hg; have hnb6 := NB477_475.out; have hnc6 := NB475_477.out; obtain ⟨hcz7_0, hcz7_1, hcz7_2, hcz7_3, hfz7_0, hfz7_1, hfz7_2, hfz7_3⟩ := cz4 BK477.out; obtain ⟨hcz8_0, hcz8_1, hfz8_0, hfz8_1⟩ := cz2 BK475.out))
  refine bodyPost_ret (Xa1 rfl _ _ gb475 40 #[.int .i64 0, .int .i64 0] (0, 0) _ rfl J32 Tryd.underlying40 rfl J8) rfl ?_
  exact ⟨J2, J39⟩
 have c3b0 := decide_eq_false c3
 have c3b1 : decide (0 < ((Xa l0 0).f1).length) = false := decide_eq_false J35
 clear c3
 refine yF H ?_ ?_ <;> clear H <;> rintro ⟨c9b0, c9b1, c9⟩ H
 ·clear c9
  refine yu H ?_ ?_ <;> clear H <;> rintro c10 H
  ·have c10b0 : decide (0 < (((Xa l0 0).f3).length : Int)) = true := decide_eq_true c10
   have c10b1 : decide (0 < ((Xa l0 0).f3).length) = true := decide_eq_true J35
   clear c10
   obtain ⟨rfl, rfl, rfl⟩ := yp3 H
   go_enter Tryd.func17, Tryd.ntmps17
   go_wp2_with (first | ((with_reducible refine Xk (N := 2) rfl ?_); refine bxw 2 40 #[.int .i64 0, .int .i64 0] ?_; intro gb475 hg w11 hbox hb; have BK475 := zq (hbox); have GE475 := zq ((J12 : w.heap.size ≤ gb475)); replace HB := zq (Xd J0 hb); clear hb hbox hg; have p476 : 0 ≤ (0 : Int) := J35; have q476 : 0 < (l0.length : Int) := of_decide_eq_true J3; obtain ⟨ad476, A476_1, c476_1, A476_2, c476_2, A476_3, c476_3, e476, hx476_0, hx476_1, hx476_2, hx476_3, hl476_1, hi476_1, hl476_2, hi476_2, hl476_3, hi476_3⟩ := Xbz HR0.out 0 p476 q476; cases e476; have qi476 : (0 < l0.length) = True := eq_true J35; (try rw [show ((0 : Int)).toNat = 0 from rfl] at hx476_0); (try rw [show 0 * 4 = 0 from rfl] at hx476_0); (try rw [Addr.add_zero'] at hx476_0); (try rw [show ((0 : Int)).toNat = 0 from rfl] at hx476_1); (try rw [show 0 * 4 = 0 from rfl] at hx476_1); (try rw [Addr.add_zero'] at hx476_1); (try rw [show ((0 : Int)).toNat = 0 from rfl] at hx476_2); (try rw [show 0 * 4 = 0 from rfl] at hx476_2); (try rw [Addr.add_zero'] at hx476_2); (try rw [show ((0 : Int)).toNat = 0 from rfl] at hx476_3); (try rw [show 0 * 4 = 0 from rfl] at hx476_3); (try rw [Addr.add_zero'] at hx476_3); replace hx476_0 := yh HB hx476_0; replace hx476_1 := yh HB hx476_1; replace hx476_2 := yh HB hx476_2; replace hx476_3 := yh HB hx476_3; have HR476_1 := zq hi476_1; have HC476_1 := zq hl476_1; clear hi476_1 hl476_1; have HR476_2 := zq hi476_2; have HC476_2 := zq hl476_2; clear hi476_2 hl476_2; have HR476_3 := zq hi476_3; have HC476_3 := zq hl476_3; clear hi476_3 hl476_3; replace p476 := eq_true p476; replace q476 := eq_true q476) | ((with_reducible refine Xk (N := 4) rfl ?_); refine bxw 4 32 #[.int .i64 0, .slice none 0 0, .slice none 0 0, .slice none 0 0] ?_; intro gb477 hg w12 hbox hb; have BK477 := zq (hbox); have GW477 := zq ((J90 : w.heap.size ≤ gb477)); have GE477 := zq ((J90 : w.heap.size ≤ gb477)); replace HB := zq (Xd (zs1 GE475.out) hb); have NB475_477 := zq ((J80 : gb475 ≠ gb477)); have NB477_475 := zq ((J81 : gb477 ≠ gb475)); replace BK475 := zq (Xh (g := gb475) (o := .cells #[.int .i64 0, .int .i64 0] 40 (0, 0)) (zk BK475.out) hb); clear hb hbox hg; have hnb13 := NB477_475.out; have hnc13 := NB475_477.out; obtain ⟨hcz14_0, hcz14_1, hcz14_2, hcz14_3, hfz14_0, hfz14_1, hfz14_2, hfz14_3⟩ := cz4 BK477.out; have p478 : 0 ≤ (0 : Int) := J35; have q478 : 0 < (((Xa l0 0).f3).length : Int) := of_decide_eq_true J3; obtain ⟨ad478, e478, hx478_0, hx478_1⟩ := Xcf HR476_3.out 0 p478 q478; cases e478; have qi478 : (0 < ((Xa l0 0).f3).length) = True := eq_true J35; (try rw [show ((0 : Int)).toNat = 0 from rfl] at hx478_0); (try rw [show 0 * 2 = 0 from rfl] at hx478_0); (try rw [Addr.add_zero'] at hx478_0); (try rw [show ((0 : Int)).toNat = 0 from rfl] at hx478_1); (try rw [show 0 * 2 = 0 from rfl] at hx478_1); (try rw [Addr.add_zero'] at hx478_1); have hn478_0 : ad478.block ≠ gb477 := Nat.ne_of_lt (Nat.lt_of_lt_of_le J101 GW477.out); have hn478_1 : ad478.block ≠ gb477 := Nat.ne_of_lt (Nat.lt_of_lt_of_le J101 GW477.out); have hn478_2 : ad478.block ≠ gb477 := Nat.ne_of_lt (Nat.lt_of_lt_of_le J101 GW477.out); have hn478_3 : ad478.block ≠ gb477 := Nat.ne_of_lt (Nat.lt_of_lt_of_le J101 GW477.out); replace hx478_0 := yh HB hx478_0; replace hx478_1 := yh HB hx478_1; replace hx478_0 := (X7 (p := ⟨gb477, 0, none⟩) (zb hn478_0) (.int .i64 ((Xa l0 0).f0))).trans hx478_0; replace hx478_1 := (X7 (p := ⟨gb477, 0, none⟩) (zb hn478_0) (.int .i64 ((Xa l0 0).f0))).trans hx478_1; replace hx478_0 := (X7 (p := ⟨gb477, 1, none⟩) (zb hn478_1) (.slice A476_1 ((Xa l0 0).f1).length c476_1)).trans hx478_0; replace hx478_1 := (X7 (p := ⟨gb477, 1, none⟩) (zb hn478_1) (.slice A476_1 ((Xa l0 0).f1).length c476_1)).trans hx478_1; replace hx478_0 := (X7 (p := ⟨gb477, 2, none⟩) (zb hn478_2) (.slice A476_2 ((Xa l0 0).f2).length c476_2)).trans hx478_0; replace hx478_1 := (X7 (p := ⟨gb477, 2, none⟩) (zb hn478_2) (.slice A476_2 ((Xa l0 0).f2).length c476_2)).trans hx478_1; replace hx478_0 := (X7 (p := ⟨gb477, 3, none⟩) (zb hn478_3) (.slice (some ad478) ((Xa l0 0).f3).length c476_3)).trans hx478_0; replace hx478_1 := (X7 (p := ⟨gb477, 3, none⟩) (zb hn478_3) (.slice (some ad478) ((Xa l0 0).f3).length c476_3)).trans hx478_1; clear hn478_0; clear hn478_1; clear hn478_2; clear hn478_3; replace p478 := eq_true p478; replace q478 := eq_true q478; obtain ⟨hcz15_0, hcz15_1, hfz15_0, hfz15_1⟩ := cz2 BK475.out))
   refine bodyPost_ret (Xa1 rfl _ _ gb475 40 #[.int .i64 ((Xv ((Xa l0 0).f3) 0).f0), .int .i64 ((Xv ((Xa l0 0).f3) 0).f1)] (0, 0) _ rfl (by (with_reducible repeat (first | refine Xc ?_ _ | refine Xe ?_ | refine Xb ?_ _)); refine Xj (cs := #[.int .i64 ((Xv ((Xa l0 0).f3) 0).f0), .int .i64 0]) ?_ 1 _ rfl; (with_reducible repeat (first | refine Xc ?_ _ | refine Xe ?_ | refine Xb ?_ _)); refine Xj (cs := #[.int .i64 0, .int .i64 0]) ?_ 0 _ rfl; (with_reducible repeat (first | refine Xc ?_ _ | refine Xe ?_ | refine Xb ?_ _)); refine Xab ?_ NB475_477.out _; (with_reducible repeat (first | refine Xc ?_ _ | refine Xe ?_ | refine Xb ?_ _)); refine Xab ?_ NB475_477.out _; (with_reducible repeat (first | refine Xc ?_ _ | refine Xe ?_ | refine Xb ?_ _)); refine Xab ?_ NB475_477.out _; (with_reducible repeat (first | refine Xc ?_ _ | refine Xe ?_ | refine Xb ?_ _)); refine Xab ?_ NB475_477.out _; (with_reducible repeat (first | refine Xc ?_ _ | refine Xe ?_ | refine Xb ?_ _)); exact BK475.out) Tryd.underlying40 rfl J8) rfl ?_
   exact ⟨J2, J39⟩
  ·exact absurd H J88
 refine yF H ?_ ?_ <;> clear H <;> rintro ⟨c16b0, c16b1, c16⟩ H
 ·clear c16
  refine yu H ?_ ?_ <;> clear H <;> rintro c17 H
  ·have c17b0 : decide (0 < (((Xa l0 0).f2).length : Int)) = true := decide_eq_true c17
   have c17b1 : decide (0 < ((Xa l0 0).f2).length) = true := decide_eq_true J35
   clear c17
   refine yv H ?_; clear H; rintro ⟨t480, t481⟩ A18 H
   dsimp only at H
   obtain ⟨rfl, rfl, rfl⟩ := yp3 H
   go_enter Tryd.func17, Tryd.ntmps17
   go_wp2_with (first | ((with_reducible refine Xk (N := 2) rfl ?_); refine bxw 2 40 #[.int .i64 0, .int .i64 0] ?_; intro gb475 hg w19 hbox hb; have BK475 := zq (hbox); have GE475 := zq ((J12 : w.heap.size ≤ gb475)); replace HB := zq (Xd J0 hb); clear hb hbox hg; have p476 : 0 ≤ (0 : Int) := J35; have q476 : 0 < (l0.length : Int) := of_decide_eq_true J3; obtain ⟨ad476, A476_1, c476_1, A476_2, c476_2, A476_3, c476_3, e476, hx476_0, hx476_1, hx476_2, hx476_3, hl476_1, hi476_1, hl476_2, hi476_2, hl476_3, hi476_3⟩ := Xbz HR0.out 0 p476 q476; cases e476; have qi476 : (0 < l0.length) = True := eq_true J35; (try rw [show ((0 : Int)).toNat = 0 from rfl] at hx476_0); (try rw [show 0 * 4 = 0 from rfl] at hx476_0); (try rw [Addr.add_zero'] at hx476_0); (try rw [show ((0 : Int)).toNat = 0 from rfl] at hx476_1); (try rw [show 0 * 4 = 0 from rfl] at hx476_1); (try rw [Addr.add_zero'] at hx476_1); (try rw [show ((0 : Int)).toNat = 0 from rfl] at hx476_2); (try rw [show 0 * 4 = 0 from rfl] at hx476_2); (try rw [Addr.add_zero'] at hx476_2); (try rw [show ((0 : Int)).toNat = 0 from rfl] at hx476_3); (try rw [show 0 * 4 = 0 from rfl] at hx476_3); (try rw [Addr.add_zero'] at hx476_3); replace hx476_0 := yh HB hx476_0; replace hx476_1 := yh HB hx476_1; replace hx476_2 := yh HB hx476_2; replace hx476_3 := yh HB hx476_3; have HR476_1 := zq hi476_1; have HC476_1 := zq hl476_1; clear hi476_1 hl476_1; have HR476_2 := zq hi476_2; have HC476_2 := zq hl476_2; clear hi476_2 hl476_2; have HR476_3 := zq hi476_3; have HC476_3 := zq hl476_3; clear hi476_3 hl476_3; replace p476 := eq_true p476; replace q476 := eq_true q476) | ((with_reducible refine Xk (N := 4) rfl ?_); refine bxw 4 32 #[.int .i64 0, .slice none 0 0, .slice none 0 0, .slice none 0 0] ?_; intro gb477 hg w20 hbox hb; have BK477 := zq (hbox); have GW477 := zq ((J90 : w.heap.size ≤ gb477)); have GE477 := zq ((J90 : w.heap.size ≤ gb477)); replace HB := zq (Xd (zs1 GE475.out) hb); have NB475_477 := zq ((J80 : gb475 ≠ gb477)); have NB477_475 := zq ((J81 : gb477 ≠ gb475)); replace BK475 := zq (Xh (g := gb475) (o := .cells #[.int .i64 0, .int .i64 0] 40 (0, 0)) (zk BK475.out) hb); clear hb hbox hg; have hnb21 := NB477_475.out; have hnc21 := NB475_477.out; obtain ⟨hcz22_0, hcz22_1, hcz22_2, hcz22_3, hfz22_0, hfz22_1, hfz22_2, hfz22_3⟩ := cz4 BK477.out; have p479 : 0 ≤ (0 : Int) := J35; have q479 : 0 < (((Xa l0 0).f2).length : Int) := of_decide_eq_true J3; obtain ⟨ad479, e479, hx479_0⟩ := Kd.at_int HR476_2.out 0 p479 q479; cases e479; have qi479 : (0 < ((Xa l0 0).f2).length) = True := eq_true J35; (try rw [show ((0 : Int)).toNat = 0 from rfl] at hx479_0); (try rw [Addr.add_zero'] at hx479_0); have hn479_0 : ad479.block ≠ gb477 := Nat.ne_of_lt (Nat.lt_of_lt_of_le J102 GW477.out); have hn479_1 : ad479.block ≠ gb477 := Nat.ne_of_lt (Nat.lt_of_lt_of_le J102 GW477.out); have hn479_2 : ad479.block ≠ gb477 := Nat.ne_of_lt (Nat.lt_of_lt_of_le J102 GW477.out); have hn479_3 : ad479.block ≠ gb477 := Nat.ne_of_lt (Nat.lt_of_lt_of_le J102 GW477.out); replace hx479_0 := yh HB hx479_0; replace hx479_0 := (X7 (p := ⟨gb477, 0, none⟩) (zb hn479_0) (.int .i64 ((Xa l0 0).f0))).trans hx479_0; replace hx479_0 := (X7 (p := ⟨gb477, 1, none⟩) (zb hn479_1) (.slice A476_1 ((Xa l0 0).f1).length c476_1)).trans hx479_0; replace hx479_0 := (X7 (p := ⟨gb477, 2, none⟩) (zb hn479_2) (.slice (some ad479) ((Xa l0 0).f2).length c476_2)).trans hx479_0; replace hx479_0 := (X7 (p := ⟨gb477, 3, none⟩) (zb hn479_3) (.slice A476_3 ((Xa l0 0).f3).length c476_3)).trans hx479_0; clear hn479_0; clear hn479_1; clear hn479_2; clear hn479_3; replace p479 := eq_true p479; replace q479 := eq_true q479) | ((with_reducible refine Xg (f := 22) rfl ?_); refine Xt (some 33) rfl rfl Tryd.func22 J8 rfl #[.int .i64 (rd ((Xa l0 0).f2) 0)] rfl J1 ?_; (with_reducible refine (Xa4.calls k (rd ((Xa l0 0).f2) 0) t480 t481 _ A18.out).mono ?_); rintro e w23 ⟨rfl, hb⟩; refine ⟨_, rfl, ?_⟩; replace BK475 := zq (Xh (g := gb475) (o := .cells #[.int .i64 0, .int .i64 0] 40 (0, 0)) J44 hb); replace BK477 := zq (Xh (g := gb477) (o := .cells #[.int .i64 ((Xa l0 0).f0), .slice A476_1 ((Xa l0 0).f1).length c476_1, .slice (some ad479) ((Xa l0 0).f2).length c476_2, .slice A476_3 ((Xa l0 0).f3).length c476_3] 32 (0, 0)) (by (with_reducible repeat (first | refine Xc ?_ _ | refine Xe ?_ | refine Xb ?_ _)); refine Xj (cs := #[.int .i64 ((Xa l0 0).f0), .slice A476_1 ((Xa l0 0).f1).length c476_1, .slice (some ad479) ((Xa l0 0).f2).length c476_2, .slice none 0 0]) ?_ 3 _ rfl; (with_reducible repeat (first | refine Xc ?_ _ | refine Xe ?_ | refine Xb ?_ _)); refine Xj (cs := #[.int .i64 ((Xa l0 0).f0), .slice A476_1 ((Xa l0 0).f1).length c476_1, .slice none 0 0, .slice none 0 0]) ?_ 2 _ rfl; (with_reducible repeat (first | refine Xc ?_ _ | refine Xe ?_ | refine Xb ?_ _)); refine Xj (cs := #[.int .i64 ((Xa l0 0).f0), .slice none 0 0, .slice none 0 0, .slice none 0 0]) ?_ 1 _ rfl; (with_reducible repeat (first | refine Xc ?_ _ | refine Xe ?_ | refine Xb ?_ _)); refine Xj (cs := #[.int .i64 0, .slice none 0 0, .slice none 0 0, .slice none 0 0]) ?_ 0 _ rfl; (with_reducible repeat (first | refine Xc ?_ _ | refine Xe ?_ | refine Xb ?_ _)); exact BK477.out) hb); replace HB := zq (Xd (zs2 GE475.out GE477.out) hb); (try clear hb); obtain ⟨hcz24_0, hcz24_1, hfz24_0, hfz24_1⟩ := cz2 BK475.out))
   refine bodyPost_ret (Xa1 rfl _ _ gb475 40 #[.int .i64 t480, .int .i64 t481] (0, 0) _ rfl (by (with_reducible repeat (first | refine Xc ?_ _ | refine Xe ?_ | refine Xb ?_ _)); refine Xj (cs := #[.int .i64 t480, .int .i64 0]) ?_ 1 _ rfl; (with_reducible repeat (first | refine Xc ?_ _ | refine Xe ?_ | refine Xb ?_ _)); refine Xj (cs := #[.int .i64 0, .int .i64 0]) ?_ 0 _ rfl; (with_reducible repeat (first | refine Xc ?_ _ | refine Xe ?_ | refine Xb ?_ _)); exact BK475.out) Tryd.underlying40 rfl J8) rfl ?_
   exact ⟨J2, J39⟩
  ·exact absurd H J88
 refine yE H ?_ ?_ <;> clear H <;> rintro ⟨c25b0, c25b1, c25⟩ H
 ·obtain ⟨rfl, rfl, rfl⟩ := yp3 H
  go_enter Tryd.func17, Tryd.ntmps17
  go_wp2_with (first | ((with_reducible refine Xk (N := 2) rfl ?_); refine bxw 2 40 #[.int .i64 0, .int .i64 0] ?_; intro gb475 hg w34 hbox hb; have BK475 := zq (hbox); have GE475 := zq ((J12 : w.heap.size ≤ gb475)); replace HB := zq (Xd J0 hb); clear hb hbox hg; have p476 : 0 ≤ (0 : Int) := J35; have q476 : 0 < (l0.length : Int) := of_decide_eq_true J3; obtain ⟨ad476, A476_1, c476_1, A476_2, c476_2, A476_3, c476_3, e476, hx476_0, hx476_1, hx476_2, hx476_3, hl476_1, hi476_1, hl476_2, hi476_2, hl476_3, hi476_3⟩ := Xbz HR0.out 0 p476 q476; cases e476; have qi476 : (0 < l0.length) = True := eq_true J35; (try rw [show ((0 : Int)).toNat = 0 from rfl] at hx476_0); (try rw [show 0 * 4 = 0 from rfl] at hx476_0); (try rw [Addr.add_zero'] at hx476_0); (try rw [show ((0 : Int)).toNat = 0 from rfl] at hx476_1); (try rw [show 0 * 4 = 0 from rfl] at hx476_1); (try rw [Addr.add_zero'] at hx476_1); (try rw [show ((0 : Int)).toNat = 0 from rfl] at hx476_2); (try rw [show 0 * 4 = 0 from rfl] at hx476_2); (try rw [Addr.add_zero'] at hx476_2); (try rw [show ((0 : Int)).toNat = 0 from rfl] at hx476_3); (try rw [show 0 * 4 = 0 from rfl] at hx476_3); (try rw [Addr.add_zero'] at hx476_3); replace hx476_0 := yh HB hx476_0; replace hx476_1 := yh HB hx476_1; replace hx476_2 := yh HB hx476_2; replace hx476_3 := yh HB hx476_3; have HR476_1 := zq hi476_1; have HC476_1 := zq hl476_1; clear hi476_1 hl476_1; have HR476_2 := zq hi476_2; have HC476_2 := zq hl476_2; clear hi476_2 hl476_2; have HR476_3 := zq hi476_3; have HC476_3 := zq hl476_3; clear hi476_3 hl476_3; replace p476 := eq_true p476; replace q476 := eq_true q476) | ((with_reducible refine Xk (N := 4) rfl ?_); refine bxw 4 32 #[.int .i64 0, .slice none 0 0, .slice none 0 0, .slice none 0 0] ?_; intro gb477 hg w35 hbox hb; have BK477 := zq (hbox); have GE477 := zq ((J90 : w.heap.size ≤ gb477)); replace HB := zq (Xd (zs1 GE475.out) hb); have NB475_477 := zq ((J80 : gb475 ≠ gb477)); have NB477_475 := zq ((J81 : gb477 ≠ gb475)); replace BK475 := zq (Xh (g := gb475) (o := .cells #[.int .i64 0, .int .i64 0] 40 (0, 0)) (zk BK475.out) hb); clear hb hbox hg; have hnb36 := NB477_475.out; have hnc36 := NB475_477.out; obtain ⟨hcz37_0, hcz37_1, hcz37_2, hcz37_3, hfz37_0, hfz37_1, hfz37_2, hfz37_3⟩ := cz4 BK477.out; obtain ⟨hcz38_0, hcz38_1, hfz38_0, hfz38_1⟩ := cz2 BK475.out))
  refine bodyPost_ret (Xa1 rfl _ _ gb475 40 #[.int .i64 0, .int .i64 0] (0, 0) _ rfl J32 Tryd.underlying40 rfl J8) rfl ?_
  exact ⟨J2, J39⟩
 clear c25
 refine yi H ?_; clear H; intro c26 H
 have c26b0 := decide_eq_true c26
 have c26b1 : decide (0 < ((Xa l0 0).f2).length) = true := decide_eq_true J35
 clear c26
 refine yv H ?_; clear H; rintro ⟨t483, t484⟩ A27 H
 dsimp only at H
 obtain ⟨rfl, rfl, rfl⟩ := yp3 H
 go_enter Tryd.func17, Tryd.ntmps17
 go_wp2_with (first | ((with_reducible refine Xk (N := 2) rfl ?_); refine bxw 2 40 #[.int .i64 0, .int .i64 0] ?_; intro gb475 hg w28 hbox hb; have BK475 := zq (hbox); have GE475 := zq ((J12 : w.heap.size ≤ gb475)); replace HB := zq (Xd J0 hb); clear hb hbox hg; have p476 : 0 ≤ (0 : Int) := J35; have q476 : 0 < (l0.length : Int) := of_decide_eq_true J3; obtain ⟨ad476, A476_1, c476_1, A476_2, c476_2, A476_3, c476_3, e476, hx476_0, hx476_1, hx476_2, hx476_3, hl476_1, hi476_1, hl476_2, hi476_2, hl476_3, hi476_3⟩ := Xbz HR0.out 0 p476 q476; cases e476; have qi476 : (0 < l0.length) = True := eq_true J35; (try rw [show ((0 : Int)).toNat = 0 from rfl] at hx476_0); (try rw [show 0 * 4 = 0 from rfl] at hx476_0); (try rw [Addr.add_zero'] at hx476_0); (try rw [show ((0 : Int)).toNat = 0 from rfl] at hx476_1); (try rw [show 0 * 4 = 0 from rfl] at hx476_1); (try rw [Addr.add_zero'] at hx476_1); (try rw [show ((0 : Int)).toNat = 0 from rfl] at hx476_2); (try rw [show 0 * 4 = 0 from rfl] at hx476_2); (try rw [Addr.add_zero'] at hx476_2); (try rw [show ((0 : Int)).toNat = 0 from rfl] at hx476_3); (try rw [show 0 * 4 = 0 from rfl] at hx476_3); (try rw [Addr.add_zero'] at hx476_3); replace hx476_0 := yh HB hx476_0; replace hx476_1 := yh HB hx476_1; replace hx476_2 := yh HB hx476_2; replace hx476_3 := yh HB hx476_3; have HR476_1 := zq hi476_1; have HC476_1 := zq hl476_1; clear hi476_1 hl476_1; have HR476_2 := zq hi476_2; have HC476_2 := zq hl476_2; clear hi476_2 hl476_2; have HR476_3 := zq hi476_3; have HC476_3 := zq hl476_3; clear hi476_3 hl476_3; replace p476 := eq_true p476; replace q476 := eq_true q476) | ((with_reducible refine Xk (N := 4) rfl ?_); refine bxw 4 32 #[.int .i64 0, .slice none 0 0, .slice none 0 0, .slice none 0 0] ?_; intro gb477 hg w29 hbox hb; have BK477 := zq (hbox); have GW477 := zq ((J90 : w.heap.size ≤ gb477)); have GE477 := zq ((J90 : w.heap.size ≤ gb477)); replace HB := zq (Xd (zs1 GE475.out) hb); have NB475_477 := zq ((J80 : gb475 ≠ gb477)); have NB477_475 := zq ((J81 : gb477 ≠ gb475)); replace BK475 := zq (Xh (g := gb475) (o := .cells #[.int .i64 0, .int .i64 0] 40 (0, 0)) (zk BK475.out) hb); clear hb hbox hg; have hnb30 := NB477_475.out; have hnc30 := NB475_477.out; obtain ⟨hcz31_0, hcz31_1, hcz31_2, hcz31_3, hfz31_0, hfz31_1, hfz31_2, hfz31_3⟩ := cz4 BK477.out; have p482 : 0 ≤ (0 : Int) := J35; have q482 : 0 < (((Xa l0 0).f2).length : Int) := of_decide_eq_true J3; obtain ⟨ad482, e482, hx482_0⟩ := Kd.at_int HR476_2.out 0 p482 q482; cases e482; have qi482 : (0 < ((Xa l0 0).f2).length) = True := eq_true J35; (try rw [show ((0 : Int)).toNat = 0 from rfl] at hx482_0); (try rw [Addr.add_zero'] at hx482_0); have hn482_0 : ad482.block ≠ gb477 := Nat.ne_of_lt (Nat.lt_of_lt_of_le J103 GW477.out); have hn482_1 : ad482.block ≠ gb477 := Nat.ne_of_lt (Nat.lt_of_lt_of_le J103 GW477.out); have hn482_2 : ad482.block ≠ gb477 := Nat.ne_of_lt (Nat.lt_of_lt_of_le J103 GW477.out); have hn482_3 : ad482.block ≠ gb477 := Nat.ne_of_lt (Nat.lt_of_lt_of_le J103 GW477.out); replace hx482_0 := yh HB hx482_0; replace hx482_0 := (X7 (p := ⟨gb477, 0, none⟩) (zb hn482_0) (.int .i64 ((Xa l0 0).f0))).trans hx482_0; replace hx482_0 := (X7 (p := ⟨gb477, 1, none⟩) (zb hn482_1) (.slice A476_1 ((Xa l0 0).f1).length c476_1)).trans hx482_0; replace hx482_0 := (X7 (p := ⟨gb477, 2, none⟩) (zb hn482_2) (.slice (some ad482) ((Xa l0 0).f2).length c476_2)).trans hx482_0; replace hx482_0 := (X7 (p := ⟨gb477, 3, none⟩) (zb hn482_3) (.slice A476_3 ((Xa l0 0).f3).length c476_3)).trans hx482_0; clear hn482_0; clear hn482_1; clear hn482_2; clear hn482_3; replace p482 := eq_true p482; replace q482 := eq_true q482) | ((with_reducible refine Xg (f := 22) rfl ?_); refine Xt (some 33) rfl rfl Tryd.func22 J8 rfl #[.int .i64 (rd ((Xa l0 0).f2) 0)] rfl J1 ?_; (with_reducible refine (Xa4.calls k (rd ((Xa l0 0).f2) 0) t483 t484 _ A27.out).mono ?_); rintro e w32 ⟨rfl, hb⟩; refine ⟨_, rfl, ?_⟩; replace BK475 := zq (Xh (g := gb475) (o := .cells #[.int .i64 0, .int .i64 0] 40 (0, 0)) J44 hb); replace BK477 := zq (Xh (g := gb477) (o := .cells #[.int .i64 ((Xa l0 0).f0), .slice A476_1 ((Xa l0 0).f1).length c476_1, .slice (some ad482) ((Xa l0 0).f2).length c476_2, .slice A476_3 ((Xa l0 0).f3).length c476_3] 32 (0, 0)) (by (with_reducible repeat (first | refine Xc ?_ _ | refine Xe ?_ | refine Xb ?_ _)); refine Xj (cs := #[.int .i64 ((Xa l0 0).f0), .slice A476_1 ((Xa l0 0).f1).length c476_1, .slice (some ad482) ((Xa l0 0).f2).length c476_2, .slice none 0 0]) ?_ 3 _ rfl; (with_reducible repeat (first | refine Xc ?_ _ | refine Xe ?_ | refine Xb ?_ _)); refine Xj (cs := #[.int .i64 ((Xa l0 0).f0), .slice A476_1 ((Xa l0 0).f1).length c476_1, .slice none 0 0, .slice none 0 0]) ?_ 2 _ rfl; (with_reducible repeat (first | refine Xc ?_ _ | refine Xe ?_ | refine Xb ?_ _)); refine Xj (cs := #[.int .i64 ((Xa l0 0).f0), .slice none 0 0, .slice none 0 0, .slice none 0 0]) ?_ 1 _ rfl; (with_reducible repeat (first | refine Xc ?_ _ | refine Xe ?_ | refine Xb ?_ _)); refine Xj (cs := #[.int .i64 0, .slice none 0 0, .slice none 0 0, .slice none 0 0]) ?_ 0 _ rfl; (with_reducible repeat (first | refine Xc ?_ _ | refine Xe ?_ | refine Xb ?_ _)); exact BK477.out) hb); replace HB := zq (Xd (zs2 GE475.out GE477.out) hb); (try clear hb); obtain ⟨hcz33_0, hcz33_1, hfz33_0, hfz33_1⟩ := cz2 BK475.out))
 refine bodyPost_ret (Xa1 rfl _ _ gb475 40 #[.int .i64 t483, .int .i64 t484] (0, 0) _ rfl (by (with_reducible repeat (first | refine Xc ?_ _ | refine Xe ?_ | refine Xb ?_ _)); refine Xj (cs := #[.int .i64 t483, .int .i64 0]) ?_ 1 _ rfl; (with_reducible repeat (first | refine Xc ?_ _ | refine Xe ?_ | refine Xb ?_ _)); refine Xj (cs := #[.int .i64 0, .int .i64 0]) ?_ 0 _ rfl; (with_reducible repeat (first | refine Xc ?_ _ | refine Xe ?_ | refine Xb ?_ _)); exact BK475.out) Tryd.underlying40 rfl J8) rfl ?_
 exact ⟨J2, J39⟩
def Xbi.f (a0 : Int) : Option (Bool) := some (a0 != a0)
set_option maxHeartbeats 8000000 in
set_option maxRecDepth 100000 in
theorem Xbi.calls (a0 : Int) (r : Bool) (w : World) (h : Xbi.f a0 = some r) :
  Calls Tryd.prog 54 #[.int .i64 a0] w fun e w' => e = .returned (.bool r) ∧ Drawn0 w w' := by
 have H : (some (a0 != a0)) = some r := h
 clear h
 obtain rfl := yo H
 go_enter Tryd.func54, Tryd.ntmps54
 go_wp2
 go_ret
 exact ⟨J4, J5⟩
def Xal.f (a0 : Int) (a1 : Int) : Option (Int) := (Xbi.f a0).bind fun t485 => ((Xbi.f a1).bind fun t486 => (if t485 = true then (if t486 = true then (some 0) else (some (-1))) else (if t486 = true then (some 1) else (if a0 < a1 then (some (-1)) else (if a0 > a1 then (some 1) else (some 0))))))
set_option maxHeartbeats 8000000 in
set_option maxRecDepth 100000 in
theorem Xal.calls (a0 : Int) (a1 : Int) (r : Int) (w : World) (h : Xal.f a0 a1 = some r) :
  Calls Tryd.prog 29 #[.int .i64 a0, .int .i64 a1] w fun e w' => e = .returned (.int .i64 r) ∧ Drawn0 w w' := by
 unfold Xal.f at h
 have H := h
 clear h
 refine yv H ?_; clear H; rintro t485 A3 H
 refine yv H ?_; clear H; rintro t486 A4 H
 refine yC H ?_ ?_ <;> clear H <;> rintro rfl H
 ·refine yC H ?_ ?_ <;> clear H <;> rintro rfl H
  ·obtain rfl := yo H
   go_enter Tryd.func29, Tryd.ntmps29
   go_wp2_with (first | ((with_reducible refine Xg (f := 54) rfl ?_); refine Xt (some 8) rfl rfl Tryd.func54 J8 rfl #[.int .i64 a0] rfl J1 ?_; (with_reducible refine (Xbi.calls a0 true _ A3.out).mono ?_); rintro e w' ⟨rfl, ⟨nd, rfl⟩⟩; refine ⟨_, rfl, ?_⟩) | ((with_reducible refine Xg (f := 54) rfl ?_); refine Xt (some 10) rfl rfl Tryd.func54 J8 rfl #[.int .i64 a1] rfl J1 ?_; (with_reducible refine (Xbi.calls a1 true _ A4.out).mono ?_); rintro e w' ⟨rfl, ⟨nd, rfl⟩⟩; refine ⟨_, rfl, ?_⟩))
   go_ret
   exact ⟨J4, J5⟩
  ·obtain rfl := yo H
   go_enter Tryd.func29, Tryd.ntmps29
   go_wp2_with (first | ((with_reducible refine Xg (f := 54) rfl ?_); refine Xt (some 8) rfl rfl Tryd.func54 J8 rfl #[.int .i64 a0] rfl J1 ?_; (with_reducible refine (Xbi.calls a0 true _ A3.out).mono ?_); rintro e w' ⟨rfl, ⟨nd, rfl⟩⟩; refine ⟨_, rfl, ?_⟩) | ((with_reducible refine Xg (f := 54) rfl ?_); refine Xt (some 10) rfl rfl Tryd.func54 J8 rfl #[.int .i64 a1] rfl J1 ?_; (with_reducible refine (Xbi.calls a1 false _ A4.out).mono ?_); rintro e w' ⟨rfl, ⟨nd, rfl⟩⟩; refine ⟨_, rfl, ?_⟩))
   go_ret
   exact ⟨J4, J5⟩
 refine yC H ?_ ?_ <;> clear H <;> rintro rfl H
 ·obtain rfl := yo H
  go_enter Tryd.func29, Tryd.ntmps29
  go_wp2_with (first | ((with_reducible refine Xg (f := 54) rfl ?_); refine Xt (some 8) rfl rfl Tryd.func54 J8 rfl #[.int .i64 a0] rfl J1 ?_; (with_reducible refine (Xbi.calls a0 false _ A3.out).mono ?_); rintro e w' ⟨rfl, ⟨nd, rfl⟩⟩; refine ⟨_, rfl, ?_⟩) | ((with_reducible refine Xg (f := 54) rfl ?_); refine Xt (some 10) rfl rfl Tryd.func54 J8 rfl #[.int .i64 a1] rfl J1 ?_; (with_reducible refine (Xbi.calls a1 true _ A4.out).mono ?_); rintro e w' ⟨rfl, ⟨nd, rfl⟩⟩; refine ⟨_, rfl, ?_⟩))
  go_ret
  exact ⟨J4, J5⟩
 refine yD H ?_ ?_ <;> clear H <;> rintro c8b0 H
 ·obtain rfl := yo H
  go_enter Tryd.func29, Tryd.ntmps29
  go_wp2_with (first | ((with_reducible refine Xg (f := 54) rfl ?_); refine Xt (some 8) rfl rfl Tryd.func54 J8 rfl #[.int .i64 a0] rfl J1 ?_; (with_reducible refine (Xbi.calls a0 false _ A3.out).mono ?_); rintro e w' ⟨rfl, ⟨nd, rfl⟩⟩; refine ⟨_, rfl, ?_⟩) | ((with_reducible refine Xg (f := 54) rfl ?_); refine Xt (some 10) rfl rfl Tryd.func54 J8 rfl #[.int .i64 a1] rfl J1 ?_; (with_reducible refine (Xbi.calls a1 false _ A4.out).mono ?_); rintro e w' ⟨rfl, ⟨nd, rfl⟩⟩; refine ⟨_, rfl, ?_⟩))
  go_ret
  exact ⟨J4, J5⟩
 refine yd H ?_ ?_ <;> clear H <;> rintro c9b0 H
 ·obtain rfl := yo H
  go_enter Tryd.func29, Tryd.ntmps29
  go_wp2_with (first | ((with_reducible refine Xg (f := 54) rfl ?_); refine Xt (some 8) rfl rfl Tryd.func54 J8 rfl #[.int .i64 a0] rfl J1 ?_; (with_reducible refine (Xbi.calls a0 false _ A3.out).mono ?_); rintro e w' ⟨rfl, ⟨nd, rfl⟩⟩; refine ⟨_, rfl, ?_⟩) | ((with_reducible refine Xg (f := 54) rfl ?_); refine Xt (some 10) rfl rfl Tryd.func54 J8 rfl #[.int .i64 a1] rfl J1 ?_; (with_reducible refine (Xbi.calls a1 false _ A4.out).mono ?_); rintro e w' ⟨rfl, ⟨nd, rfl⟩⟩; refine ⟨_, rfl, ?_⟩))
  go_ret
  exact ⟨J4, J5⟩
 obtain rfl := yo H
 go_enter Tryd.func29, Tryd.ntmps29
 go_wp2_with (first | ((with_reducible refine Xg (f := 54) rfl ?_); refine Xt (some 8) rfl rfl Tryd.func54 J8 rfl #[.int .i64 a0] rfl J1 ?_; (with_reducible refine (Xbi.calls a0 false _ A3.out).mono ?_); rintro e w' ⟨rfl, ⟨nd, rfl⟩⟩; refine ⟨_, rfl, ?_⟩) | ((with_reducible refine Xg (f := 54) rfl ?_); refine Xt (some 10) rfl rfl Tryd.func54 J8 rfl #[.int .i64 a1] rfl J1 ?_; (with_reducible refine (Xbi.calls a1 false _ A4.out).mono ?_); rintro e w' ⟨rfl, ⟨nd, rfl⟩⟩; refine ⟨_, rfl, ?_⟩))
 go_ret
 exact ⟨J4, J5⟩
def Xbb.f (a0 : ByteArray) (a1 : ByteArray) : Option (Bool) := if (a0.size : Int) ≥ (a1.size : Int) then (if 0 ≤ (a1.size : Int) then (if (a1.size : Int) ≤ (a0.size : Int) then (some ((a0.extract 0 ((a1.size : Int) : Int).toNat).toList == a1.toList)) else (none)) else (none)) else (some false)
set_option maxHeartbeats 8000000 in
set_option maxRecDepth 100000 in
theorem Xbb.calls (a0 : ByteArray) (a1 : ByteArray) (r : Bool) (w : World) (h : Xbb.f a0 a1 = some r) :
  Calls Tryd.prog 68 #[.string a0, .string a1] w fun e w' => e = .returned (.bool r) ∧ Drawn0 w w' := by
 unfold Xbb.f at h
 have H := h
 clear h
 refine yt H ?_ ?_ <;> clear H <;> rintro c3 H
 ·have c3b0 : decide ((a1.size : Int) ≤ (a0.size : Int)) = false := decide_eq_false c3
  have c3b1 : decide (a1.size ≤ a0.size) = false := decide_eq_false (fun h => c3 (Int.ofNat_le.mpr h))
  clear c3
  obtain rfl := yo H
  go_enter Tryd.func68, Tryd.ntmps68
  go_wp2
  go_ret
  exact ⟨J4, J5⟩
 have c3b0 := decide_eq_true c3
 have c3b1 : decide (a1.size ≤ a0.size) = true := decide_eq_true (Int.ofNat_le.mp c3)
 clear c3
 refine yi H ?_; clear H; intro c4 H
 have c4b0 := eq_true c4
 have c4b1 := decide_eq_true c4
 clear c4
 refine yi H ?_; clear H; intro c5 H
 have c5b0 := eq_true c5
 have c5b1 := decide_eq_true c5
 clear c5
 obtain rfl := yo H
 go_enter Tryd.func68, Tryd.ntmps68
 go_wp2
 go_ret
 exact ⟨J4, J5⟩
def Xb6.f (a0 : ByteArray) (a1 : ByteArray) : Option (ByteArray) := (Xbb.f a0 a1).bind fun t487 => (if t487 = true then (if 0 ≤ (a1.size : Int) then (if (a1.size : Int) ≤ (a0.size : Int) then (some (a0.extract ((a1.size : Int) : Int).toNat a0.size)) else (none)) else (none)) else (some a0))
set_option maxHeartbeats 8000000 in
set_option maxRecDepth 100000 in
theorem Xb6.calls (a0 : ByteArray) (a1 : ByteArray) (r : ByteArray) (w : World) (h : Xb6.f a0 a1 = some r) :
  Calls Tryd.prog 83 #[.string a0, .string a1] w fun e w' => e = .returned (.string r) ∧ Drawn0 w w' := by
 unfold Xb6.f at h
 have H := h
 clear h
 refine yv H ?_; clear H; rintro t487 A3 H
 refine yB H ?_ ?_ <;> clear H <;> rintro rfl H
 ·obtain rfl := yo H
  go_enter Tryd.func83, Tryd.ntmps83
  go_wp2_with (first | ((with_reducible refine Xg (f := 68) rfl ?_); refine Xt (some 7) rfl rfl Tryd.func68 J8 rfl #[.string a0, .string a1] rfl J1 ?_; (with_reducible refine (Xbb.calls a0 a1 false _ A3.out).mono ?_); rintro e w' ⟨rfl, ⟨nd, rfl⟩⟩; refine ⟨_, rfl, ?_⟩))
  go_ret
  exact ⟨J4, J5⟩
 refine yi H ?_; clear H; intro c5 H
 have c5b0 := eq_true c5
 have c5b1 := decide_eq_true c5
 clear c5
 refine yi H ?_; clear H; intro c6 H
 have c6b0 := eq_true c6
 have c6b1 := decide_eq_true c6
 clear c6
 obtain rfl := yo H
 go_enter Tryd.func83, Tryd.ntmps83
 go_wp2_with (first | ((with_reducible refine Xg (f := 68) rfl ?_); refine Xt (some 7) rfl rfl Tryd.func68 J8 rfl #[.string a0, .string a1] rfl J1 ?_; (with_reducible refine (Xbb.calls a0 a1 true _ A3.out).mono ?_); rintro e w' ⟨rfl, ⟨nd, rfl⟩⟩; refine ⟨_, rfl, ?_⟩))
 go_ret
 exact ⟨J4, J5⟩
def Xcd.f (a0 : ByteArray) (a1 : ByteArray) : Option (ByteArray) := (Xb6.f a0 a1).bind fun t488 => (some t488)
set_option maxHeartbeats 8000000 in
set_option maxRecDepth 100000 in
theorem Xcd.calls (a0 : ByteArray) (a1 : ByteArray) (r : ByteArray) (w : World) (h : Xcd.f a0 a1 = some r) :
  Calls Tryd.prog 74 #[.string a0, .string a1] w fun e w' => e = .returned (.string r) ∧ Drawn0 w w' := by
 unfold Xcd.f at h
 have H := h
 clear h
 refine yv H ?_; clear H; rintro t488 A3 H
 obtain rfl := yo H
 go_enter Tryd.func74, Tryd.ntmps74
 go_wp2_with (first | ((with_reducible refine Xg (f := 83) rfl ?_); refine Xt (some 7) rfl rfl Tryd.func83 J8 rfl #[.string a0, .string a1] rfl J1 ?_; (with_reducible refine (Xb6.calls a0 a1 t488 _ A3.out).mono ?_); rintro e w' ⟨rfl, ⟨nd, rfl⟩⟩; refine ⟨_, rfl, ?_⟩))
 go_ret
 exact ⟨J4, J5⟩
def laysM171_ren : Go.Shelf.Ren := ⟨fun | 171 => 75 | 243 => 84 | 246 => 87 | 283 => 92 | 284 => 93 | 285 => 94 | 286 => 95 | 129 => 98 | 317 => 97 | 318 => 99 | 319 => 100 | 320 => 101 | 337 => 102 | 338 => 103 | n => n, fun | 3 => 3 | 9 => 9 | 2 => 2 | 4 => 4 | 171 => 92 | 0 => 0 | 53 => 93 | 37 => 96 | 5 => 5 | 173 => 97 | 212 => 102 | 51 => 103 | 20 => 20 | 213 => 104 | 46 => 105 | 232 => 108 | 233 => 109 | n => n, fun | 17 => 1 | 18 => 2 | 19 => 3 | n => n⟩
theorem laysM171 : Go.Proofs.LaysM.n171 Tryd.prog laysM171_ren := {
 mixed := J8
 f129 := Tryd.func98.trans (congrArg some J8)
 f171 := Tryd.func75.trans (congrArg some J8)
 f243 := Tryd.func84.trans (congrArg some J8)
 f246 := Tryd.func87.trans (congrArg some J8)
 f283 := Tryd.func92.trans (congrArg some J8)
 f284 := Tryd.func93.trans (congrArg some J8)
 f285 := Tryd.func94.trans (congrArg some J8)
 f286 := Tryd.func95.trans (congrArg some J8)
 f317 := Tryd.func97.trans (congrArg some J8)
 f318 := Tryd.func99.trans (congrArg some J8)
 f319 := Tryd.func100.trans (congrArg some J8)
 f320 := Tryd.func101.trans (congrArg some J8)
 f337 := Tryd.func102.trans (congrArg some J8)
 f338 := Tryd.func103.trans (congrArg some J8)
 t0 := Tryd.underlying0
 a0 := Tryd.isAgg0
 z0 := Tryd.sizeOf0
 v0 := Tryd.zeroValue0
 t2 := Tryd.underlying2
 a2 := Tryd.isAgg2
 z2 := Tryd.sizeOf2
 v2 := Tryd.zeroValue2
 t3 := Tryd.underlying3
 a3 := Tryd.isAgg3
 z3 := Tryd.sizeOf3
 v3 := Tryd.zeroValue3
 t4 := Tryd.underlying4
 a4 := Tryd.isAgg4
 z4 := Tryd.sizeOf4
 v4 := Tryd.zeroValue4
 t5 := Tryd.underlying5
 a5 := Tryd.isAgg5
 z5 := Tryd.sizeOf5
 v5 := Tryd.zeroValue5
 t9 := Tryd.underlying9
 a9 := Tryd.isAgg9
 z9 := Tryd.sizeOf9
 v9 := Tryd.zeroValue9
 t20 := Tryd.underlying20
 a20 := Tryd.isAgg20
 z20 := Tryd.sizeOf20
 v20 := Tryd.zeroValue20
 t37 := Tryd.underlying96
 a37 := Tryd.isAgg96
 z37 := Tryd.sizeOf96
 v37 := Tryd.zeroValue96
 t46 := Tryd.underlying105
 a46 := Tryd.isAgg105
 z46 := Tryd.sizeOf105
 v46 := Tryd.zeroValue105
 t51 := Tryd.underlying103
 a51 := Tryd.isAgg103
 z51 := Tryd.sizeOf103
 v51 := Tryd.zeroValue103
 t53 := Tryd.underlying93
 a53 := Tryd.isAgg93
 z53 := Tryd.sizeOf93
 v53 := Tryd.zeroValue93
 t171 := Tryd.underlying92
 a171 := Tryd.isAgg92
 z171 := Tryd.sizeOf92
 v171 := Tryd.zeroValue92
 t173 := Tryd.underlying97
 a173 := Tryd.isAgg97
 z173 := Tryd.sizeOf97
 v173 := Tryd.zeroValue97
 t212 := Tryd.underlying102
 a212 := Tryd.isAgg102
 z212 := Tryd.sizeOf102
 v212 := Tryd.zeroValue102
 t213 := Tryd.underlying104
 a213 := Tryd.isAgg104
 z213 := Tryd.sizeOf104
 t232 := Tryd.underlying108
 a232 := Tryd.isAgg108
 z232 := Tryd.sizeOf108
 v232 := Tryd.zeroValue108
 t233 := Tryd.underlying109
 a233 := Tryd.isAgg109
 z233 := Tryd.sizeOf109
 v233 := Tryd.zeroValue109
 g17 := J8
 g18 := J8
 g19 := J8
 i0 := J8
 i2 := J8
 i3 := J8
 i4 := J8
 i5 := J8
 i9 := J8
 i20 := J8
 i37 := J8
 i46 := J8
 i51 := J8
 i53 := J8
 i171 := J8
 i173 := J8
 i212 := J8
 i232 := J8
 i233 := J8
 m17 := J8
 m18 := J8
 m19 := by kernel_rfl }
def HTab (w : World) : Prop := Go.Lib.TabIs Tryd.prog w (Rows.systemFirstRow.laid[2]'J11).1 .u64 Go.Lib.pow10Tab
theorem Xbm {w w1 : World} (h : HTab w) (hb : Below w.heap.size w w1) : HTab w1 := by
 obtain ⟨gq, hgn⟩ : ∃ gq, Tryd.prog.globalNamed (Rows.systemFirstRow.laid[2]'J11).1 = some gq := ⟨1, J8⟩
 unfold HTab Go.Lib.TabIs World.var? at h ⊢
 rw [hgn] at h ⊢
 simp only [Option.bind_some] at h ⊢
 have hlt : gq < w.heap.size := by
  rcases Nat.lt_or_ge gq w.heap.size with h' | h'
  ·exact h'
  ·rw [Array.getElem?_eq_none h'] at h; cases h
 rw [hb.block gq hlt]
 exact h
def Xcr.f (a0 : Int) : Option (ByteArray) := if -9223372036854775808 ≤ a0 ∧ a0 ≤ 9223372036854775807 then some ⟨(Go.Lib.itoa a0).toArray⟩ else none
theorem Xcr.calls (a0 : Int) (r : ByteArray) (w : World) (ht_ : HTab w) (h : Xcr.f a0 = some r) :
  Calls Tryd.prog 75 #[.int .i64 a0] w fun e w' => e = .returned (.string r) ∧ Below w.heap.size w w' := by
 unfold Xcr.f at h
 by_cases g : -9223372036854775808 ≤ a0 ∧ a0 ≤ 9223372036854775807
 ·rw [if_pos g] at h
  obtain rfl := Option.some.inj h
  refine (Go.Proofs.Any.strconv_Itoa laysM171 a0 g.1 g.2 w ht_).mono ?_
  rintro e w' ⟨rfl, k, os, rfl⟩
  exact ⟨rfl, Go.Lib.below_grow _ _ (Nat.le_refl _) _ _⟩
 ·rw [if_neg g] at h
  exact absurd h J88
def Xcg.f (a0 : Int) : Option (ByteArray) := (Xcr.f a0).bind fun t489 => ((Xcd.f t489 (⟨#[45]⟩ : ByteArray)).bind fun t490 => (some t490))
set_option maxHeartbeats 8000000 in
set_option maxRecDepth 100000 in
theorem Xcg.calls (a0 : Int) (r : ByteArray) (w : World) (ht_ : HTab w) (h : Xcg.f a0 = some r) :
  Calls Tryd.prog 55 #[.int .i64 a0] w fun e w' => e = .returned (.string r) ∧ Below w.heap.size w w' := by
 have HT := zq ht_
 clear ht_
 have HB := zq (Below.refl w.heap.size w)
 unfold Xcg.f at h
 have H := h
 clear h
 refine yv H ?_; clear H; rintro t489 A2 H
 refine yv H ?_; clear H; rintro t490 A3 H
 obtain rfl := yo H
 go_enter Tryd.func55, Tryd.ntmps55
 go_wp2_with (first | ((with_reducible refine Xg (f := 75) rfl ?_); refine Xt (some 4) rfl rfl Tryd.func75 J8 rfl #[.int .i64 a0] rfl J1 ?_; (with_reducible refine (Xcr.calls a0 t489 _ (Xbm HT.out J0) A2.out).mono ?_); rintro e w4 ⟨rfl, hb⟩; refine ⟨_, rfl, ?_⟩; replace HB := zq (Xd J0 hb); (try clear hb)) | ((with_reducible refine Xg (f := 74) rfl ?_); refine Xt (some 5) rfl rfl Tryd.func74 J8 rfl #[.string t489, .string (⟨#[45]⟩ : ByteArray)] rfl J1 ?_; (with_reducible refine (Xcd.calls t489 (⟨#[45]⟩ : ByteArray) t490 _ A3.out).mono ?_); rintro e w' ⟨rfl, ⟨nd, rfl⟩⟩; refine ⟨_, rfl, ?_⟩))
 go_ret
 exact ⟨J2, J0⟩
def Xa2.l0 : Nat → Int → List Int → Int → Int → Option (Int)
 | 0, _, _, _, _ => none
 | k + 1, x3, x6, x7, x8 => if x8 < x7 then (if 0 ≤ x8 then (if x8 < (x6.length : Int) then (if (rd x6 x8) = x3 then (Xa2.l0 k x3 x6 x7 (wrap64 (x8 + 1))) else (some (rd x6 x8))) else (none)) else (none)) else (some x3)
def Xa2.f (k : Nat) (l0 : List Int) : Option (Int) := Xa2.l0 k 0 l0 (l0.length : Int) 0
theorem Xa2.mono_l : ∀ k, (∀ y0 y1 y2 y3, LeO (Xa2.l0 k y0 y1 y2 y3) (Xa2.l0 (k + 1) y0 y1 y2 y3))
 | 0 => fun _ _ _ _ r h => by simp [Xa2.l0] at h
 | k + 1 => by
  have ih0 := Xa2.mono_l k
  ·intro y0 y1 y2 y3
   unfold Xa2.l0
   exact mz0
theorem Xa2.mono : ∀ a0 k, LeO (Xa2.f k a0) (Xa2.f (k + 1) a0) := by
 intro a0 k
 have ih0 := Xa2.mono_l k
 unfold Xa2.f
 exact mz0
set_option maxHeartbeats 8000000 in
set_option maxRecDepth 100000 in
theorem Xa2.calls (k : Nat) (A0 : Option Addr) (c0 : Nat) (l0 : List Int) (r : Int) (w : World) (hr0 : Kd.C (Kd.int .i64) w A0 l0.length l0) (hc0 : l0.length ≤ c0) (h : Xa2.f k l0 = some r) :
  Calls Tryd.prog 56 #[.slice A0 l0.length c0] w fun e w' => e = .returned (.int .i64 r) ∧ Drawn0 w w' := by
 have HR0 := zq hr0
 have HC0 := zq hc0
 clear hr0 hc0
 unfold Xa2.f at h
 have H := h
 clear h
 have H' := zq H
 clear H
 go_enter Tryd.func56, Tryd.ntmps56
 go_wp2
 go_loopg [8] k (fun kq v8 w' => ∃ (x8_1 : Int), v8 = .int .i64 x8_1 ∧ Aside0 (Xa2.l0 kq 0 l0 (l0.length : Int) x8_1 = some r) ∧ Aside0 (kq ≤ k) ∧ Drawn0 w w')
 case atStart => exact ⟨(0), J4, H', ⟨Nat.le_refl _⟩, J5⟩
 case round =>
  clear H'
  obtain ⟨x8_1, rfl, HA, HK1, ⟨m1, rfl⟩⟩ := hrel
  cases gk with
  | zero => exact absurd HA.out (by simp [Xa2.l0])
  | succ k1 =>
   have H := HA.out
   clear HA
   simp only [Xa2.l0] at H
   refine yd H ?_ ?_ <;> clear H <;> rintro c2b0 H
   ·obtain rfl := yo H
    go_wp2
    go_ret
    exact ⟨J4, J5⟩
   refine yj H ?_; clear H; intro c3b0 H
   refine yj H ?_; clear H; intro c4b0 H
   refine yE H ?_ ?_ <;> clear H <;> rintro ⟨c5b0, c5b1, c5⟩ H
   ·obtain rfl := yo H
    have p491 : 0 ≤ (x8_1 : Int) := of_decide_eq_true J3
    have q491 : x8_1 < (l0.length : Int) := of_decide_eq_true J3
    obtain ⟨ad491, e491, hx491_0⟩ := Kd.at_int HR0.out x8_1 p491 q491
    cases e491
    replace p491 := eq_true p491
    replace q491 := eq_true q491
    go_wp2
    go_ret
    exact ⟨J4, J5⟩
   clear c5
   have H' := zq H
   clear H
   have p491 : 0 ≤ (x8_1 : Int) := of_decide_eq_true J3
   have q491 : x8_1 < (l0.length : Int) := of_decide_eq_true J3
   obtain ⟨ad491, e491, hx491_0⟩ := Kd.at_int HR0.out x8_1 p491 q491
   cases e491
   replace p491 := eq_true p491
   replace q491 := eq_true q491
   go_wp2
   go_roundg k1
   case measure => have := HK1.out; omega
   case rel => exact ⟨(wrap64 (x8_1 + 1)), J4, H', ⟨J86⟩, J5⟩
def Xcp.f (a0 : ByteArray) (a1 : ByteArray) : Option (Int) := some (Lib.compareBytes a0.data.toList a1.data.toList)
set_option maxHeartbeats 1000000 in
set_option maxRecDepth 100000 in
theorem Xcp.calls (a0 : ByteArray) (a1 : ByteArray) (r : Int) (w : World) (h : Xcp.f a0 a1 = some r) :
  Calls Tryd.prog 76 #[.string a0, .string a1] w fun e w' => e = .returned (.int .i64 r) ∧ Drawn0 w w' := by
 obtain rfl := Option.some.inj h
 refine Calls.mono (R := fun e w' => e = .returned (.int .i64 (Lib.compareBytes a0.data.toList a1.data.toList)) ∧ w' = w) ?_ (fun e w' hh => ⟨hh.1, by rw [hh.2]; exact Drawn0.refl w⟩)
 go_enter Tryd.func76, Tryd.ntmps76
 go_wp2
 rw [run_callFunc_extern Tryd.func85 J8 J8 J8 (e := Extern.BytealgCompare.compare) J8, Lib.run_compareString]
 simp only [Result.andThen]
 rw [Oper.upon_value]
 go_wp2
 go_ret
 exact ⟨rfl, rfl⟩
def Xcq.f (a0 : ByteArray) (a1 : ByteArray) : Option (Int) := (Xcp.f a0 a1).bind fun t492 => (some t492)
set_option maxHeartbeats 8000000 in
set_option maxRecDepth 100000 in
theorem Xcq.calls (a0 : ByteArray) (a1 : ByteArray) (r : Int) (w : World) (h : Xcq.f a0 a1 = some r) :
  Calls Tryd.prog 57 #[.string a0, .string a1] w fun e w' => e = .returned (.int .i64 r) ∧ Drawn0 w w' := by
 unfold Xcq.f at h
 have H := h
 clear h
 refine yv H ?_; clear H; rintro t492 A3 H
 obtain rfl := yo H
 go_enter Tryd.func57, Tryd.ntmps57
 go_wp2_with (first | ((with_reducible refine Xg (f := 76) rfl ?_); refine Xt (some 7) rfl rfl Tryd.func76 J8 rfl #[.string a0, .string a1] rfl J1 ?_; (with_reducible refine (Xcp.calls a0 a1 t492 _ A3.out).mono ?_); rintro e w' ⟨rfl, ⟨nd, rfl⟩⟩; refine ⟨_, rfl, ?_⟩))
 go_ret
 exact ⟨J4, J5⟩
def decimal_above.f (k : Nat) (a0_0 : Int) (a0_1 : Int) (a1_0 : Int) (a1_1 : Int) : Option (Int) := (Xcg.f a0_0).bind fun t495 => ((Xcg.f a1_0).bind fun t496 => ((Xal.f (wrap64 ((t495.size : Int) + a0_1)) (wrap64 ((t496.size : Int) + a1_1))).bind fun t497 => ((Xcq.f t495 t496).bind fun t498 => ((Xa2.f k (([t497, t498] : List Int))).bind fun t502 => (some t502)))))
theorem decimal_above.mono : ∀ a0 a1 a2 a3 k, LeO (decimal_above.f k a0 a1 a2 a3) (decimal_above.f (k + 1) a0 a1 a2 a3) := by
 intro a0 a1 a2 a3 k
 unfold decimal_above.f
 have im0 := @Xa2.mono
 exact mz3
def decimal_above.T1 : Bool × List (List Nat × List Nat) := (true, [([], []), ([0], [0]), ([1], [1]), ([], []), ([3], [3]), ([4, 2], [4]), ([2, 5, 0, 1, 2], [2]), ([5, 6, 0, 1, 2, 3, 4, 5, 6], [5])])
def decimal_above.B1 : List Nat := [0, 1, 3, 0, 8, 31, 63, 127]
theorem decimal_above.tab1 : Xc8 .any (opsOf Tryd.f30 1) = decimal_above.T1 := J8
theorem decimal_above.bits1 : Xdc decimal_above.T1.2 decimal_above.B1 = true := J8
set_option maxHeartbeats 8000000 in
set_option maxRecDepth 100000 in
theorem decimal_above.calls (k : Nat) (a0_0 : Int) (a0_1 : Int) (a1_0 : Int) (a1_1 : Int) (r : Int) (w : World) (ht_ : HTab w) (h : decimal_above.f k a0_0 a0_1 a1_0 a1_1 = some r) :
  Calls Tryd.prog 30 #[.agg #[.int .i64 a0_0, .int .i64 a0_1], .agg #[.int .i64 a1_0, .int .i64 a1_1]] w fun e w' => e = .returned (.int .i64 r) ∧ Below w.heap.size w w' := by
 have HT := zq ht_
 clear ht_
 have hu40 := Tryd.underlying40
 have HB := zq (Below.refl w.heap.size w)
 unfold decimal_above.f at h
 have H := h
 clear h
 refine yv H ?_; clear H; rintro t495 A3 H
 refine yv H ?_; clear H; rintro t496 A4 H
 refine yv H ?_; clear H; rintro t497 A5 H
 refine yv H ?_; clear H; rintro t498 A6 H
 obtain ⟨y499, hy499⟩ : ∃ y_ : List Int, y_ = (([t497, t498] : List Int)) := ⟨_, rfl⟩
 rw (occs := .pos [1]) [← hy499] at H
 have Ny499 := zq hy499
 clear hy499
 refine yv H ?_; clear H; rintro t502 A7 H
 obtain rfl := yo H
 go_enter Tryd.func30, Tryd.ntmps30
 try go_wp2_with (first | ((with_reducible refine Xk (N := 2) rfl ?_); refine bxw 2 40 #[.int .i64 a0_0, .int .i64 a0_1] ?_; intro gb493 hg w8 hbox hb; have BK493 := zq (hbox); have GE493 := zq ((J12 : w.heap.size ≤ gb493)); replace HB := zq (Xd J0 hb); clear hb hbox hg) | ((with_reducible refine Xk (N := 3) rfl ?_); refine bxw 3 40 #[.int .i64 a1_0, .int .i64 a1_1] ?_; intro gb494 hg w9 hbox hb; have BK494 := zq (hbox); have GE494 := zq ((by rw [hg]; exact (Xf (zs1 GE493.out)) : w.heap.size ≤ gb494)); replace HB := zq (Xd (zs1 GE493.out) hb); have NB493_494 := zq ((by rw [hg]; exact Nat.ne_of_lt (Xbe (g := gb493) (o := .cells #[.int .i64 a0_0, .int .i64 a0_1] 40 (0, 0)) (zk BK493.out)) : gb493 ≠ gb494)); have NB494_493 := zq ((by rw [hg]; exact Nat.ne_of_gt (Xbe (g := gb493) (o := .cells #[.int .i64 a0_0, .int .i64 a0_1] 40 (0, 0)) (zk BK493.out)) : gb494 ≠ gb493)); replace BK493 := zq (Xh (g := gb493) (o := .cells #[.int .i64 a0_0, .int .i64 a0_1] 40 (0, 0)) (zk BK493.out) hb); clear hb hbox hg))
 replace BK493 := zq (Xe BK493.out)
 replace BK494 := zq (Xe BK494.out)
 replace HB := zq (X8 HB.out)
 refine Xeh (n := 8) (S := fun w' => w'.cell? ⟨gb493, 0, none⟩ = some (.int .i64 a0_0) ∧ w'.cell? ⟨gb493, 1, none⟩ = some (.int .i64 a0_1) ∧ w'.cell? ⟨gb494, 0, none⟩ = some (.int .i64 a1_0) ∧ w'.cell? ⟨gb494, 1, none⟩ = some (.int .i64 a1_1)) (ds := []) #[Z,Z,Z,Z,Z,Z,Z,Z] J8 rfl rfl ⟨(Xm BK493.out 0).trans rfl, (Xm BK493.out 1).trans rfl, (Xm BK494.out 0).trans rfl, (Xm BK494.out 1).trans rfl⟩ (fun hHeld => ?_); refine Xc7 decimal_above.tab1 decimal_above.bits1 (fun HT_ HW_ => ?_)
 generalize w9.drew = w10 at BK493 BK494 HB hHeld ⊢
 refine Xbs (i := 0) (N := some 7) (v := ?_) (a' := ?_) #[Y,Z,Z,Z,Z,Z,Z,Z] rfl rfl (Xbc HT_.out J8) (fun _ _ _ h => h) (Or.inl ⟨Xa5, ?_⟩) ?_ ?_
 rotate_left
 ·exact pz0
 rotate_left
 ·exact pz1
 refine Xbs (i := 3) (N := some 10) (v := ?_) (a' := ?_) #[Y,Z,Z,Y,Z,Z,Z,Z] rfl rfl (Xbc HT_.out J8) (fun _ _ _ h => h) (Or.inl ⟨Xa5, ?_⟩) ?_ ?_
 rotate_left
 ·exact pz0
 rotate_left
 ·exact pz1
 refine Xd1 (i := 1) (N := some 8) (v := ?_) (a' := ?_) #[Y,Y,Z,Y,Z,Z,Z,Z] rfl rfl (Xcw HT_.out HW_.out J8) (fun _ _ _ h => h) (Or.inl ⟨Xa5, ?_⟩) hHeld ?_ ?_
 rotate_left
 ·rintro w' ⟨s0, s1, s2, s3⟩
  go_simp
  with_reducible rfl
 rotate_left
 ·exact pz1
 refine Xd1 (i := 4) (N := some 11) (v := ?_) (a' := ?_) #[Y,Y,Z,Y,Y,Z,Z,Z] rfl rfl (Xcw HT_.out HW_.out J8) (fun _ _ _ h => h) (Or.inl ⟨Xa5, ?_⟩) hHeld ?_ ?_
 rotate_left
 ·rintro w' ⟨s0, s1, s2, s3⟩
  go_simp
  with_reducible rfl
 rotate_left
 ·exact pz1
 refine Xdy (i := 2) (N := some 9) #[Y,Y,Y,Y,Y,Z,Z,Z] rfl rfl (Xct HT_.out J8) J11 (fun K hK => ?_)
 refine Xdj Tryd.func55 J8 rfl #[.int .i64 a0_0] Xa5 rfl rfl J1 ?_
 with_reducible refine (Xcg.calls a0_0 t495 _ (Xbm HT.out J0) A3.out).mono ?_
 rintro e w11 ⟨rfl, hb⟩
 refine ⟨_, rfl, ?_⟩
 replace BK493 := zq (Xh (g := gb493) (o := .cells #[.int .i64 a0_0, .int .i64 a0_1] 40 (0, 0)) (zk BK493.out) hb)
 replace BK494 := zq (Xh (g := gb494) (o := .cells #[.int .i64 a1_0, .int .i64 a1_1] 40 (0, 0)) (zk BK494.out) hb)
 replace HB := zq (Xd (zs2 GE493.out GE494.out) hb)
 (try clear hb)
 (try clear hb2)
 (try clear hk)
 (try clear hi)
 refine hK.out _ _ ⟨(Xm BK493.out 0).trans rfl, (Xm BK493.out 1).trans rfl, (Xm BK494.out 0).trans rfl, (Xm BK494.out 1).trans rfl⟩ (fun hHeld => ?_)
 clear hK K
 refine Xcl (a' := ?_) ?_ ?_
 rotate_left
 ·show Act.put _ (some 9) _ = _
  simp only [Act.put, List.setIfInBounds_toArray, List.set_cons_zero, List.set_cons_succ, Xbd, Xbh]
  rfl
 refine Xdy (i := 5) (N := some 12) #[Y,Y,Y,Y,Y,Y,Z,Z] rfl rfl (Xct HT_.out J8) J11 (fun K hK => ?_)
 refine Xdj Tryd.func55 J8 rfl #[.int .i64 a1_0] Xa5 rfl rfl J1 ?_
 with_reducible refine (Xcg.calls a1_0 t496 _ (Xbm HT.out J0) A4.out).mono ?_
 rintro e w12 ⟨rfl, hb⟩
 refine ⟨_, rfl, ?_⟩
 replace BK493 := zq (Xh (g := gb493) (o := .cells #[.int .i64 a0_0, .int .i64 a0_1] 40 (0, 0)) (zk BK493.out) hb)
 replace BK494 := zq (Xh (g := gb494) (o := .cells #[.int .i64 a1_0, .int .i64 a1_1] 40 (0, 0)) (zk BK494.out) hb)
 replace HB := zq (Xd (zs2 GE493.out GE494.out) hb)
 (try clear hb)
 (try clear hb2)
 (try clear hk)
 (try clear hi)
 refine hK.out _ _ ⟨(Xm BK493.out 0).trans rfl, (Xm BK493.out 1).trans rfl, (Xm BK494.out 0).trans rfl, (Xm BK494.out 1).trans rfl⟩ (fun hHeld => ?_)
 clear hK K
 refine Xcl (a' := ?_) ?_ ?_
 rotate_left
 ·show Act.put _ (some 12) _ = _
  simp only [Act.put, List.setIfInBounds_toArray, List.set_cons_zero, List.set_cons_succ, Xbd, Xbh]
  rfl
 refine Xbs (i := 6) (N := some 5) (v := ?_) (a' := ?_) #[Y,Y,Y,Y,Y,Y,Y,Z] rfl rfl (Xbc HT_.out J8) (fun _ _ _ h => h) (Or.inl ⟨Xa5, ?_⟩) ?_ ?_
 rotate_left
 ·exact pz0
 rotate_left
 ·exact pz1
 refine Xbs (i := 7) (N := some 6) (v := ?_) (a' := ?_) #[Y,Y,Y,Y,Y,Y,Y,Y] rfl rfl (Xbc HT_.out J8) (fun _ _ _ h => h) (Or.inl ⟨Xa5, ?_⟩) ?_ ?_
 rotate_left
 ·exact pz0
 rotate_left
 ·exact pz1
 refine done_ (Xdz HT_.out J8) ?_
 have hnb13 := NB493_494.out
 have hnc13 := NB494_493.out
 obtain ⟨hcz14_0, hcz14_1, hfz14_0, hfz14_1⟩ := cz2 BK493.out
 obtain ⟨hcz15_0, hcz15_1, hfz15_0, hfz15_1⟩ := cz2 BK494.out
 try go_wp2_with (first | ((with_reducible refine Xg (f := 29) rfl ?_); refine Xt (some 23) rfl rfl Tryd.func29 J8 rfl #[.int .i64 (wrap64 ((t495.size : Int) + a0_1)), .int .i64 (wrap64 ((t496.size : Int) + a1_1))] rfl J1 ?_; (with_reducible refine (Xal.calls (wrap64 ((t495.size : Int) + a0_1)) (wrap64 ((t496.size : Int) + a1_1)) t497 _ A5.out).mono ?_); rintro e w' ⟨rfl, ⟨nd, rfl⟩⟩; refine ⟨_, rfl, ?_⟩) | ((with_reducible refine Xg (f := 57) rfl ?_); refine Xt (some 26) rfl rfl Tryd.func57 J8 rfl #[.string t495, .string t496] rfl J1 ?_; (with_reducible refine (Xcq.calls t495 t496 t498 _ A6.out).mono ?_); rintro e w' ⟨rfl, ⟨nd, rfl⟩⟩; refine ⟨_, rfl, ?_⟩) | ((with_reducible refine Xk (N := 27) rfl ?_); refine lwR (Kd.int .i64) 3 27 (xs := ([t497, t498] : List Int)) [.int .i64 t497, .int .i64 t498] Ny499 (Reps.one (show Kd.M (Kd.int .i64) _ _ _ t497 [.int .i64 t497] from rfl) (Reps.one (show Kd.M (Kd.int .i64) _ _ _ t498 [.int .i64 t498] from rfl) (Reps.none _ _))) ?_; intro v500 w16 ho17 hb; have HO501 := zq (Kd.R_lower ho17 (Xf (zs2 GE493.out GE494.out))); replace HB := zq (Xd (zs2 GE493.out GE494.out) hb); clear hb ho17; obtain ⟨Ao18, co18, eo18⟩ := Kd.R_slice HO501.out; subst eo18) | ((with_reducible refine Xg (f := 56) rfl ?_); refine Xt (some 28) rfl rfl Tryd.func56 J8 rfl #[.slice Ao18 y499.length co18] rfl J1 ?_; (with_reducible refine (Xa2.calls k _ _ y499 t502 _ ?side1 ?side2 A7.out).mono ?_); (case side1 => exact zc ((Kd.R_reads' HO501.out).2.2)); (case side2 => exact (Kd.R_reads' HO501.out).2.1); rintro e w' ⟨rfl, ⟨nd, rfl⟩⟩; refine ⟨_, rfl, ?_⟩))
 go_ret
 exact ⟨J2, by repeat (first | (with_reducible first | exact HB.out | apply Xah | apply Xy | apply X8 | refine X2 ?_ GE493.out | refine X2 ?_ GE494.out) | exact HB.out)⟩
end Go.Proofs.YtfjhiiaahbjaiaaDoor.HSystemFirst
