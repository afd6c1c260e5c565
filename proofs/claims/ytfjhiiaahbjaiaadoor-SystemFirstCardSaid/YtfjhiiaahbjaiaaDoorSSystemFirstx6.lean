/- What the Go functions of this claim answer, told as functions of numbers and lists, and that other memory stays as it was: words and walks, shortened by a program. -/
import Derived.Test.YtfjhiiaahbjaiaaDoorSSystemFirstx0
import Derived.Test.YtfjhiiaahbjaiaaDoorSSystemFirstx2
namespace Go.Proofs.YtfjhiiaahbjaiaaDoor.HSystemFirst
open Go.RowKit Go.Proofs.YtfjhiiaahbjaiaaDoorW.PrintWords Go.Proofs.YtfjhiiaahbjaiaaDoorW.PrintLast Go.Proofs.YtfjhiiaahbjaiaaDoorW.PrintMore
attribute [local go_sem] Xby Xbw Xcb Xca Xbp Xbo Xbx Xbv
set_option linter.unusedVariables false
set_option linter.unusedSimpArgs false
def Xb4.f (k : Nat) (a0 : Int) : Option (Int × Int) := (Xap.f k a0 0).bind fun bt156 => (some (bt156.1, bt156.2.1))
theorem Xb4.mono : ∀ a0 k, LeO (Xb4.f k a0) (Xb4.f (k + 1) a0) := by
 intro a0 k
 unfold Xb4.f
 have im0 := @Xap.mono
 exact mz3
set_option maxHeartbeats 8000000 in
set_option maxRecDepth 100000 in
theorem Xb4.calls (k : Nat) (a0 : Int) (r1 : Int) (r2 : Int) (w : World) (h : Xb4.f k a0 = some (r1, r2)) :
  Calls Tryd.prog 73 #[.int .i64 a0] w fun e w' => e = .returned (.agg #[.int .i64 r1, .int .i64 r2]) ∧ Below w.heap.size w w' := by
 have hu40 := Tryd.underlying40
 have HB := zq (Below.refl w.heap.size w)
 unfold Xb4.f at h
 have H := h
 clear h
 refine yv H ?_; clear H; rintro ⟨t156, t157, t158⟩ A2 H
 dsimp only at H
 obtain ⟨rfl, rfl⟩ := yp2 H
 go_enter Tryd.func73, Tryd.ntmps73
 go_wp2_with (first | ((with_reducible refine Xk (N := 2) rfl ?_); refine bxw 2 40 #[.int .i64 0, .int .i64 0] ?_; intro gb155 hg w3 hbox hb; have BK155 := zq (hbox); have GE155 := zq ((J12 : w.heap.size ≤ gb155)); replace HB := zq (Xd J0 hb); clear hb hbox hg) | ((with_reducible refine Xg (f := 82) rfl ?_); refine Xt (some 8) rfl rfl Tryd.func82 J8 rfl #[.agg #[.int .i64 a0, .int .i64 0]] rfl J1 ?_; (with_reducible refine (Xap.calls k a0 0 t156 t157 t158 _ A2.out).mono ?_); rintro e w4 ⟨rfl, hb⟩; refine ⟨_, rfl, ?_⟩; replace BK155 := zq (Xh (g := gb155) (o := .cells #[.int .i64 0, .int .i64 0] 40 (0, 0)) (zk BK155.out) hb); replace HB := zq (Xd (zs1 GE155.out) hb); (try clear hb)) | ((with_reducible refine Xk (N := 3) rfl ?_); refine bxw 3 40 #[.int .i64 0, .int .i64 0] ?_; intro gb159 hg w5 hbox hb; have BK159 := zq (hbox); have GE159 := zq ((by rw [hg]; exact (Xf (zs1 GE155.out)) : w.heap.size ≤ gb159)); replace HB := zq (Xd (zs1 GE155.out) hb); have NB155_159 := zq ((by rw [hg]; exact Nat.ne_of_lt (Xbe (g := gb155) (o := .cells #[.int .i64 0, .int .i64 0] 40 (0, 0)) (zk BK155.out)) : gb155 ≠ gb159)); have NB159_155 := zq ((by rw [hg]; exact Nat.ne_of_gt (Xbe (g := gb155) (o := .cells #[.int .i64 0, .int .i64 0] 40 (0, 0)) (zk BK155.out)) : gb159 ≠ gb155)); replace BK155 := zq (Xh (g := gb155) (o := .cells #[.int .i64 0, .int .i64 0] 40 (0, 0)) (zk BK155.out) hb); clear hb hbox hg; have hnb6 := NB159_155.out; have hnc6 := NB155_159.out; obtain ⟨hcz7_0, hcz7_1, hfz7_0, hfz7_1⟩ := cz2 BK159.out; obtain ⟨hcz8_0, hcz8_1, hfz8_0, hfz8_1⟩ := cz2 BK155.out))
 refine bodyPost_ret (results_cell_row rfl _ _ gb155 40 #[.int .i64 t156, .int .i64 t157] (0, 0) _ rfl (by (with_reducible repeat (first | refine Xc ?_ _ | refine Xe ?_ | refine Xb ?_ _)); refine Xj (cs := #[.int .i64 t156, .int .i64 0]) ?_ 1 _ rfl; (with_reducible repeat (first | refine Xc ?_ _ | refine Xe ?_ | refine Xb ?_ _)); refine Xj (cs := #[.int .i64 0, .int .i64 0]) ?_ 0 _ rfl; (with_reducible repeat (first | refine Xc ?_ _ | refine Xe ?_ | refine Xb ?_ _)); refine Xab ?_ NB155_159.out _; (with_reducible repeat (first | refine Xc ?_ _ | refine Xe ?_ | refine Xb ?_ _)); refine Xab ?_ NB155_159.out _; (with_reducible repeat (first | refine Xc ?_ _ | refine Xe ?_ | refine Xb ?_ _)); exact BK155.out) Tryd.underlying40 rfl J8) rfl ?_
 exact ⟨J2, by repeat (first | (with_reducible first | exact HB.out | apply Xah | apply Xy | apply X8 | refine X2 ?_ GE155.out | refine X2 ?_ GE159.out) | exact HB.out)⟩
def Xad.l0 : Nat → List (S40) → Int → Int → List Int → List Int → List (S40) → Option ((List (S40)))
 | 0, _, _, _, _, _, _ => none
 | k + 1, x3, x4, x161000, x161001, x161002, x161003 => if x4 < (x161002.length : Int) then (if 0 ≤ x4 then ((Xb4.f k (rd x161002 x4)).bind fun bt168 => (if x3.length < 8796093022208 then (Xad.l0 k (x3 ++ [(⟨bt168.1, bt168.2⟩ : S40)]) (wrap64 (x4 + 1)) x161000 x161001 x161002 x161003) else (none))) else (none)) else (some x3)
def Xad.f (k : Nat) (a0_0 : Int) (l0_1 : List Int) (l0_2 : List Int) (l0_3 : List (S40)) : Option ((List (S40))) := (some (([] : List (S40)) : List (S40))).bind fun y161 => (if y161.length + l0_3.length < 8796093022208 then (Xad.l0 k (y161 ++ l0_3) 0 a0_0 l0_1 l0_2 l0_3) else (none))
theorem Xad.mono_l : ∀ k, (∀ y0 y1 y2 y3 y4 y5, LeO (Xad.l0 k y0 y1 y2 y3 y4 y5) (Xad.l0 (k + 1) y0 y1 y2 y3 y4 y5))
 | 0 => fun _ _ _ _ _ _ r h => by simp [Xad.l0] at h
 | k + 1 => by
  have ih0 := Xad.mono_l k
  ·intro y0 y1 y2 y3 y4 y5
   unfold Xad.l0
   have im0 := @Xb4.mono
   exact mz3
theorem Xad.mono : ∀ a0 a1 a2 a3 k, LeO (Xad.f k a0 a1 a2 a3) (Xad.f (k + 1) a0 a1 a2 a3) := by
 intro a0 a1 a2 a3 k
 have ih0 := Xad.mono_l k
 unfold Xad.f
 have im0 := @Xb4.mono
 exact mz3
set_option maxHeartbeats 8000000 in
set_option maxRecDepth 100000 in
theorem Xad.calls (k : Nat) (a0_0 : Int) (A0_1 : Option Addr) (c0_1 : Nat) (l0_1 : List Int) (A0_2 : Option Addr) (c0_2 : Nat) (l0_2 : List Int) (A0_3 : Option Addr) (c0_3 : Nat) (l0_3 : List (S40)) (r : List (S40)) (w : World) (hr0_1 : Kd.C (Kd.int .i64) w A0_1 l0_1.length l0_1) (hc0_1 : l0_1.length ≤ c0_1) (hr0_2 : Kd.C (Kd.int .i64) w A0_2 l0_2.length l0_2) (hc0_2 : l0_2.length ≤ c0_2) (hr0_3 : Kd.C k40 w A0_3 l0_3.length l0_3) (hc0_3 : l0_3.length ≤ c0_3) (h : Xad.f k a0_0 l0_1 l0_2 l0_3 = some r) :
  Calls Tryd.prog 53 #[.agg #[.int .i64 a0_0, .slice A0_1 l0_1.length c0_1, .slice A0_2 l0_2.length c0_2, .slice A0_3 l0_3.length c0_3]] w fun e w' => ∃ v0_ : Value, e = .returned (v0_) ∧ Kd.R k40 40 w' w.heap.size (fun _ => True) v0_ r ∧ Below w.heap.size w w' := by
 have hu32 := Tryd.underlying32
 have HR0_1 := zq hr0_1
 have HC0_1 := zq hc0_1
 clear hr0_1 hc0_1
 have HR0_2 := zq hr0_2
 have HC0_2 := zq hc0_2
 clear hr0_2 hc0_2
 have HR0_3 := zq hr0_3
 have HC0_3 := zq hc0_3
 clear hr0_3 hc0_3
 have HB := zq (Below.refl w.heap.size w)
 unfold Xad.f at h
 have H := h
 clear h
 obtain ⟨y161, hy161⟩ : ∃ y_ : List (S40), y_ = (([] : List (S40))) := ⟨_, rfl⟩
 replace H : (if y161.length + l0_3.length < 8796093022208 then (Xad.l0 k (y161 ++ l0_3) 0 a0_0 l0_1 l0_2 l0_3) else (none)) = some r := by first | (rw [hy161]; with_reducible exact H) | (have H2_ := (Option.bind_some _ _).symm.trans H; rw [hy161]; with_reducible exact H2_) | (have H2_ := (Option.bind_some _ _).symm.trans H; with_reducible exact H2_) | with_reducible exact H | (rw [hy161]; exact H) | exact H
 have Ny161 := zq hy161
 clear hy161
 refine yi H ?_; clear H; intro c2 H
 have LMc2 := zq c2
 clear c2
 obtain ⟨y164, hy164⟩ : ∃ y_ : List (S40), y_ = (y161 ++ l0_3) := ⟨_, rfl⟩
 replace H : (Xad.l0 k y164 0 a0_0 l0_1 l0_2 l0_3) = some r := by first | (rw [hy164]; with_reducible exact H) | (have H2_ := (Option.bind_some _ _).symm.trans H; rw [hy164]; with_reducible exact H2_) | (have H2_ := (Option.bind_some _ _).symm.trans H; with_reducible exact H2_) | with_reducible exact H | (rw [hy164]; exact H) | exact H
 have Ny164 := zq hy164
 clear hy164
 have H' := zq H
 clear H
 go_enter Tryd.func53, Tryd.ntmps53
 go_wp2_with (first | ((with_reducible refine Xk (N := 1) rfl ?_); refine bxw 1 32 #[.int .i64 a0_0, .slice A0_1 l0_1.length c0_1, .slice A0_2 l0_2.length c0_2, .slice A0_3 l0_3.length c0_3] ?_; intro gb160 hg w3 hbox hb; have BK160 := zq (hbox); have GE160 := zq ((J12 : w.heap.size ≤ gb160)); replace HB := zq (Xd J0 hb); clear hb hbox hg) | ((with_reducible refine Xk (N := 5) rfl ?_); refine lwR k40 40 5 (xs := ([] : List (S40))) [] Ny161 (Reps.none _ _) ?_; intro v162 w4 ho5 hb; have HO163 := zq (Kd.R_lower ho5 (Xf (zs1 GE160.out))); replace BK160 := zq (Xh (g := gb160) (o := .cells #[.int .i64 a0_0, .slice A0_1 l0_1.length c0_1, .slice A0_2 l0_2.length c0_2, .slice A0_3 l0_3.length c0_3] 32 (0, 0)) (zk BK160.out) hb); replace HB := zq (Xd (zs1 GE160.out) hb); clear hb ho5; obtain ⟨hcz6_0, hcz6_1, hcz6_2, hcz6_3, hfz6_0, hfz6_1, hfz6_2, hfz6_3⟩ := cz4 BK160.out) | ((with_reducible refine Xbt (b := .append) (xs := #[.tmp 5, .tmp 7]) rfl ?_); at_builtin; refine Kd.R_append_rows k40 (w0 := w) w.heap.size rfl (.tmp 5) (.tmp 7) 30 40 (.agg #[(.int .i64 0), (.int .i64 0)]) 16 rfl Tryd.underlying30 info40 rfl J11 J35 v162 y161 l0_3 _ _ _ (fun _ => True) (fun _ => False) rfl rfl ?aO ?aR (fun _ _ h => h) (fun _ h => h.elim) ?aF ?aB ?aS ?aL ?_; (case aR => repeat (first | exact (Kd.C_below HR0_3.out HB.out) | (with_reducible refine Kd.C_alloc ?_ _) | (with_reducible refine Kd.C_drewN ?_ _) | (with_reducible refine Kd.C_drew ?_))); (case aB => exact (zs1 GE160.out)); (case aF => exact (fun _ _ => trivial)); (case aO => exact (zr HO163.out)); (case aS => exact (Xf (zs1 GE160.out))); (case aL => have := LMc2.out; omega); intro v165 w7 ho hb hg hat; rw [← Ny164.out] at ho; replace BK160 := zq (Xb7 (g := gb160) (o := .cells #[.int .i64 a0_0, .slice A0_1 l0_1.length c0_1, .slice A0_2 l0_2.length c0_2, .slice A0_3 l0_3.length c0_3] 32 (0, 0)) (zk BK160.out) hg (Kd.R_ne HO163.out BK160.out J11)); replace HB := zq (hb); have HO166 := zq (ho); clear HO163; clear ho hb hg hat))
 go_loopg [3, 4] k (fun kq v3 v4 w' => ∃ (x3_1 : List (S40)) (x4_1 : Int), v4 = .int .i64 x4_1 ∧ Aside0 (Xad.l0 kq x3_1 x4_1 a0_0 l0_1 l0_2 l0_3 = some r) ∧ Aside0 (kq ≤ k) ∧ Aside0 (Kd.R k40 40 w' w.heap.size (fun _ => True) v3 x3_1) ∧ Aside0 (w'.heap[gb160]? = some (.cells #[.int .i64 a0_0, (.slice A0_1 l0_1.length c0_1), (.slice A0_2 l0_2.length c0_2), (.slice A0_3 l0_3.length c0_3)] 32 (0, 0))) ∧ Aside0 (Below w.heap.size w w'))
 case atStart => exact ⟨(y164), (0), J4, H', ⟨Nat.le_refl _⟩, ⟨by (with_reducible repeat (first | apply Kd.R_alloc | apply Kd.R_drewN | apply Kd.R_drew)); exact HO166.out⟩, ⟨J150⟩, ⟨J93⟩⟩
 case round =>
  clear H'
  try clear c2
  try clear hcz6_0
  try clear hcz6_1
  try clear hcz6_2
  try clear hcz6_3
  try clear hfz6_0
  try clear hfz6_1
  try clear hfz6_2
  try clear hfz6_3
  obtain ⟨x3_1, x4_1, rfl, HA, HK1, HO_3, BK160, HB⟩ := hrel
  cases gk with
  | zero => exact absurd HA.out (by simp [Xad.l0])
  | succ k1 =>
   have H := HA.out
   clear HA
   simp only [Xad.l0] at H
   refine yd H ?_ ?_ <;> clear H <;> rintro c8b0 H
   ·obtain rfl := yo H
    obtain ⟨hcz15_0, hcz15_1, hcz15_2, hcz15_3, hfz15_0, hfz15_1, hfz15_2, hfz15_3⟩ := cz4 BK160.out
    go_wp2
    go_ret
    exact ⟨_, J2, by (with_reducible repeat (first | apply Kd.R_alloc | apply Kd.R_drewN | apply Kd.R_drew)); exact HO_3.out, J93⟩
   refine yj H ?_; clear H; intro c9b0 H
   refine yv H ?_; clear H; rintro ⟨t168, t169⟩ A10 H
   dsimp only at H
   refine yi H ?_; clear H; intro c11 H
   have LMc11 := zq c11
   clear c11
   obtain ⟨y170, hy170⟩ : ∃ y_ : List (S40), y_ = (x3_1 ++ [(⟨t168, t169⟩ : S40)]) := ⟨_, rfl⟩
   replace H : (Xad.l0 k1 y170 (wrap64 (x4_1 + 1)) a0_0 l0_1 l0_2 l0_3) = some r := by first | (rw [hy170]; with_reducible exact H) | (have H2_ := (Option.bind_some _ _).symm.trans H; rw [hy170]; with_reducible exact H2_) | (have H2_ := (Option.bind_some _ _).symm.trans H; with_reducible exact H2_) | with_reducible exact H | (rw [hy170]; exact H) | exact H
   have Ny170 := zq hy170
   clear hy170
   have H' := zq H
   clear H
   obtain ⟨hcz12_0, hcz12_1, hcz12_2, hcz12_3, hfz12_0, hfz12_1, hfz12_2, hfz12_3⟩ := cz4 BK160.out
   have p167 : 0 ≤ (x4_1 : Int) := of_decide_eq_true J3
   have q167 : x4_1 < (l0_2.length : Int) := of_decide_eq_true J3
   obtain ⟨ad167, e167, hx167_0⟩ := Kd.at_int HR0_2.out x4_1 p167 q167
   cases e167
   replace hx167_0 := yh HB hx167_0
   replace p167 := eq_true p167
   replace q167 := eq_true q167
   go_wp2_with (first | ((with_reducible refine Xg (f := 73) rfl ?_); refine Xt (some 22) rfl rfl Tryd.func73 J8 rfl #[.int .i64 (rd l0_2 x4_1)] rfl J1 ?_; (with_reducible refine (Xb4.calls k1 (rd l0_2 x4_1) t168 t169 _ A10.out).mono ?_); rintro e w13 ⟨rfl, hb⟩; refine ⟨_, rfl, ?_⟩; replace HO_3 := zq (Kd.R_below (zr HO_3.out) hb); replace BK160 := zq (Xh (g := gb160) (o := .cells #[.int .i64 a0_0, .slice A0_1 l0_1.length c0_1, .slice (some ad167) l0_2.length c0_2, .slice A0_3 l0_3.length c0_3] 32 (0, 0)) (zk BK160.out) hb); replace HB := zq (Xd (zs1 GE160.out) hb); (try clear hb); (try clear hk)) | ((with_reducible refine Xbt (b := .append) (xs := #[.tmp 16, .tmp 23]) rfl ?_); at_builtin; refine Kd.R_append k40 (w0 := w) w.heap.size rfl (.tmp 16) (.tmp 23) 30 40 (.agg #[(.int .i64 0), (.int .i64 0)]) 16 rfl Tryd.underlying30 info40 rfl J11 J35 u3 x3_1 (⟨t168, t169⟩ : S40) [.int .i64 t168, .int .i64 t169] (fun _ => True) (fun _ => False) rfl rfl ?aP (fun _ hk => hk.elim) ?aF ?aO ?aB ?aS ?aL ?_; (case aP => exact Xde _ _ _ (⟨t168, t169⟩ : S40)); (case aB => exact (zs1 GE160.out)); (case aF => exact (fun _ _ => trivial)); (case aO => exact (zr HO_3.out)); (case aS => exact (Xf (zs1 GE160.out))); (case aL => have := LMc11.out; omega); intro v171 w14 ho hb hg hat; rw [← Ny170.out] at ho; replace BK160 := zq (Xb7 (g := gb160) (o := .cells #[.int .i64 a0_0, .slice A0_1 l0_1.length c0_1, .slice (some ad167) l0_2.length c0_2, .slice A0_3 l0_3.length c0_3] 32 (0, 0)) (zk BK160.out) hg (Kd.R_ne HO_3.out BK160.out J11)); replace HB := zq (hb); have HO172 := zq (ho); clear HO_3; clear ho hb hg hat))
   go_roundg k1
   case measure => have := HK1.out; omega
   case rel => exact ⟨(y170), (wrap64 (x4_1 + 1)), J4, H', ⟨J86⟩, ⟨by (with_reducible repeat (first | apply Kd.R_alloc | apply Kd.R_drewN | apply Kd.R_drew)); exact HO172.out⟩, ⟨J150⟩, ⟨J93⟩⟩
end Go.Proofs.YtfjhiiaahbjaiaaDoor.HSystemFirst
