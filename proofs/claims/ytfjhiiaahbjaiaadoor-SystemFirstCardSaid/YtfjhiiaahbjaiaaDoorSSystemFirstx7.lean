/- What the Go functions of this claim answer, told as functions of numbers and lists, and that other memory stays as it was: words and walks, shortened by a program. -/
import Derived.Test.YtfjhiiaahbjaiaaDoorSSystemFirstx0
import Derived.Test.YtfjhiiaahbjaiaaDoorSSystemFirstx4
import Derived.Test.YtfjhiiaahbjaiaaDoorSSystemFirstx5
import Derived.Test.YtfjhiiaahbjaiaaDoorSSystemFirstx6
namespace Go.Proofs.YtfjhiiaahbjaiaaDoor.HSystemFirst
open Go.RowKit Go.Proofs.YtfjhiiaahbjaiaaDoorW.PrintWords Go.Proofs.YtfjhiiaahbjaiaaDoorW.PrintLast Go.Proofs.YtfjhiiaahbjaiaaDoorW.PrintMore
attribute [local go_sem] Xby Xbw Xcb Xca Xbp Xbo Xbx Xbv
set_option linter.unusedVariables false
set_option linter.unusedSimpArgs false
mutual
def deckleref11_form.j0 : Nat → Bool → Int → List Int → List Int → List (S40) → Option ((List (S32)))
 | 0, _, _, _, _, _ => none
 | k + 1, x31, x175000, x175001, x175002, x175003 => if x31 = true then ((Xad.f k x175000 x175001 x175002 x175003).bind fun t178 => ((deckleref11_Numbers.f k x175001 t178).bind fun bt181 => (some (([(⟨bt181.1, bt181.2.1, bt181.2.2.1, bt181.2.2.2.1⟩ : S32)] : List (S32)))))) else (none)
def deckleref11_form.f : Nat → List (S32) → Option ((List (S32)))
 | 0, _ => none
 | k + 1, l0 => if 0 < (l0.length : Int) then (if ((Xa l0 0).f0) = 3 then (none) else ((Xbq.f k l0).bind fun t175 => (if ((Xa l0 0).f0) = 5 then (deckleref11_form.j0 k ((t175.length : Int) == 0) ((Xa l0 0).f0) ((Xa l0 0).f1) ((Xa l0 0).f2) ((Xa l0 0).f3)) else (deckleref11_form.j0 k true ((Xa l0 0).f0) ((Xa l0 0).f1) ((Xa l0 0).f2) ((Xa l0 0).f3))))) else (none)
end
theorem deckleref11_form.mono_l : ∀ k, (∀ y0, LeO (deckleref11_form.f k y0) (deckleref11_form.f (k + 1) y0)) ∧ (∀ y0 y1 y2 y3 y4, LeO (deckleref11_form.j0 k y0 y1 y2 y3 y4) (deckleref11_form.j0 (k + 1) y0 y1 y2 y3 y4))
 | 0 => ⟨fun _ r h => by simp [deckleref11_form.f] at h, fun _ _ _ _ _ r h => by simp [deckleref11_form.j0] at h⟩
 | k + 1 => by
  obtain ⟨ih0, ih1⟩ := deckleref11_form.mono_l k
  refine ⟨?_, ?_⟩
  ·intro y0
   unfold deckleref11_form.f
   have im0 := @Xbq.mono
   have im1 := @deckleref11_Numbers.mono
   have im2 := @Xad.mono
   exact mz3
  ·intro y0 y1 y2 y3 y4
   unfold deckleref11_form.j0
   have im0 := @Xbq.mono
   have im1 := @deckleref11_Numbers.mono
   have im2 := @Xad.mono
   exact mz3
theorem deckleref11_form.mono : ∀ a0 k, LeO (deckleref11_form.f k a0) (deckleref11_form.f (k + 1) a0) := by
 intro a0 k
 obtain ⟨ih0, ih1⟩ := deckleref11_form.mono_l k
 exact ih0 a0
def deckleref11_form.T6 : Bool × List (List Nat × List Nat) := (true, [([], []), ([0], [0]), ([], []), ([2], [2]), ([1, 3, 3], [1, 3]), ([4], [4]), ([5], [5]), ([5], [5]), ([], []), ([8, 6, 4, 0, 1, 2, 3, 4, 5, 6, 8], [6, 8]), ([7, 9, 0, 1, 2, 3, 4, 5, 6, 7, 8, 9], [7])])
def deckleref11_form.B6 : List Nat := [0, 1, 0, 4, 15, 31, 63, 63, 0, 383, 1023]
theorem deckleref11_form.tab6 : Xc8 .any (opsOf Tryd.f27 6) = deckleref11_form.T6 := J8
theorem deckleref11_form.bits6 : Xdc deckleref11_form.T6.2 deckleref11_form.B6 = true := J8
set_option maxHeartbeats 8000000 in
set_option maxRecDepth 100000 in
theorem deckleref11_form.calls (k : Nat) : ∀ (A0 : Option Addr) (c0 : Nat) (l0 : List (S32)) (r : List (S32)) (w : World) (hr0 : Kd.C k32 w A0 l0.length l0) (hc0 : l0.length ≤ c0) (h : deckleref11_form.f k l0 = some r),
  Calls Tryd.prog 27 #[.slice A0 l0.length c0] w fun e w' => ∃ v0_ : Value, e = .returned (v0_) ∧ Kd.N k32 32 w' w.heap.size (fun k_ => (w.heap.size ≤ k_)) v0_ r ∧ Below w.heap.size w w' := by
 induction k using Nat.strongRecOn with
 | _ k ih =>
 intro A0 c0 l0 r w hr0 hc0 h
 cases k with
 | zero => exact absurd h (by simp [deckleref11_form.f])
 | succ k =>
 simp only [deckleref11_form.f] at h
 have hu32 := Tryd.underlying32
 have HR0 := zq hr0
 have HC0 := zq hc0
 clear hr0 hc0
 have HB := zq (Below.refl w.heap.size w)
 have H : (if 0 < (l0.length : Int) then (if ((Xa l0 0).f0) = 3 then (none) else ((Xbq.f k l0).bind fun t175 => (if ((Xa l0 0).f0) = 5 then (deckleref11_form.j0 k ((t175.length : Int) == 0) ((Xa l0 0).f0) ((Xa l0 0).f1) ((Xa l0 0).f2) ((Xa l0 0).f3)) else (deckleref11_form.j0 k true ((Xa l0 0).f0) ((Xa l0 0).f1) ((Xa l0 0).f2) ((Xa l0 0).f3))))) else (none)) = some r := h
 clear h
 refine yi H ?_; clear H; intro c2 H
 have c2b0 := decide_eq_true c2
 have c2b1 : decide (0 < l0.length) = true := decide_eq_true J35
 clear c2
 refine yI H ?_; clear H; intro c3 H
 have c3b0 : (((Xa l0 0).f0) == 3) = false := beq_eq_false_iff_ne.mpr c3
 have c3b1 : (((Xa l0 0).f0) != 3) = true := bne_iff_ne.mpr c3
 refine yv H ?_; clear H; rintro t175 A4 H
 have HC5 := zq H
 clear H
 have p173 : 0 ≤ (0 : Int) := J35
 have q173 : 0 < (l0.length : Int) := of_decide_eq_true J3
 obtain ⟨ad173, A173_1, c173_1, A173_2, c173_2, A173_3, c173_3, e173, hx173_0, hx173_1, hx173_2, hx173_3, hl173_1, hi173_1, hl173_2, hi173_2, hl173_3, hi173_3⟩ := Xbz HR0.out 0 p173 q173
 cases e173
 have qi173 : (0 < l0.length) = True := eq_true J35
 (try rw [show ((0 : Int)).toNat = 0 from rfl] at hx173_0)
 (try rw [show 0 * 4 = 0 from rfl] at hx173_0)
 (try rw [Addr.add_zero'] at hx173_0)
 (try rw [show ((0 : Int)).toNat = 0 from rfl] at hx173_1)
 (try rw [show 0 * 4 = 0 from rfl] at hx173_1)
 (try rw [Addr.add_zero'] at hx173_1)
 (try rw [show ((0 : Int)).toNat = 0 from rfl] at hx173_2)
 (try rw [show 0 * 4 = 0 from rfl] at hx173_2)
 (try rw [Addr.add_zero'] at hx173_2)
 (try rw [show ((0 : Int)).toNat = 0 from rfl] at hx173_3)
 (try rw [show 0 * 4 = 0 from rfl] at hx173_3)
 (try rw [Addr.add_zero'] at hx173_3)
 have HR173_1 := zq hi173_1
 have HC173_1 := zq hl173_1
 clear hi173_1 hl173_1
 have HR173_2 := zq hi173_2
 have HC173_2 := zq hl173_2
 clear hi173_2 hl173_2
 have HR173_3 := zq hi173_3
 have HC173_3 := zq hl173_3
 clear hi173_3 hl173_3
 replace p173 := eq_true p173
 replace q173 := eq_true q173
 go_enter Tryd.func27, Tryd.ntmps27
 go_upto_region 5 with (first | ((with_reducible refine Xk (N := 3) rfl ?_); (try (refine Xaz Xa5 ?_; dsimp only)); refine bxw 3 32 #[.int .i64 0, .slice none 0 0, .slice none 0 0, .slice none 0 0] ?_; intro gb174 hg w6 hbox hb; have BK174 := zq (hbox); have GE174 := zq ((J12 : w.heap.size ≤ gb174)); replace HB := zq (Xd J0 hb); clear hb hbox hg; obtain ⟨hcz7_0, hcz7_1, hcz7_2, hcz7_3, hfz7_0, hfz7_1, hfz7_2, hfz7_3⟩ := cz4 BK174.out) | ((with_reducible refine Xg (f := 51) rfl ?_); refine Xt (some 23) rfl rfl Tryd.func51 J8 rfl #[.slice (some ad173) l0.length c0] rfl J1 ?_; (with_reducible refine (Xbq.calls k _ _ l0 t175 _ ?side1 ?side2 A4.out).mono ?_); (case side1 => exact Kd.C_below HR0.out (zs1 GE174.out)); (case side2 => exact HC0.out); rintro e w8 ⟨v176, rfl, ho0, hb⟩; refine ⟨_, rfl, ?_⟩; have HO177 := zq (Kd.N_lower (Kd.N_mono (ok' := fun k_ => (w.heap.size ≤ k_) ∧ k_ ≠ gb174) (Kd.R_N (Kd.R_bound ho0)) (fun k_ hk_ => ⟨(Nat.le_trans (Xf (zs1 GE174.out)) hk_.2.1), (Kd.freshB (g := gb174) (o := .cells #[.int .i64 ((Xa l0 0).f0), .slice A173_1 ((Xa l0 0).f1).length c173_1, .slice A173_2 ((Xa l0 0).f2).length c173_2, .slice A173_3 ((Xa l0 0).f3).length c173_3] 32 (0, 0)) J28 k_ hk_.2.1)⟩)) (Xf (zs1 GE174.out))); replace BK174 := zq (Xh (g := gb174) (o := .cells #[.int .i64 ((Xa l0 0).f0), .slice A173_1 ((Xa l0 0).f1).length c173_1, .slice A173_2 ((Xa l0 0).f2).length c173_2, .slice A173_3 ((Xa l0 0).f3).length c173_3] 32 (0, 0)) J28 hb); replace HB := zq (Xd (zs1 GE174.out) hb); (try clear hb); (try clear hk); (try clear ho0)))
 (try simp only [Act.put, List.setIfInBounds_toArray, List.set_cons_zero, List.set_cons_succ])
 go_cut [31] (fun v31 wc => ∃ (kq : Nat) (x31_4 : Bool), v31 = .bool x31_4 ∧ Aside0 (deckleref11_form.j0 kq x31_4 ((Xa l0 0).f0) ((Xa l0 0).f1) ((Xa l0 0).f2) ((Xa l0 0).f3) = some r) ∧ Aside0 (kq ≤ k) ∧ Aside0 (wc.heap[gb174]? = some (.cells #[.int .i64 ((Xa l0 0).f0), (.slice A173_1 ((Xa l0 0).f1).length c173_1), (.slice A173_2 ((Xa l0 0).f2).length c173_2), (.slice A173_3 ((Xa l0 0).f3).length c173_3)] 32 (0, 0))) ∧ Aside0 (Below w.heap.size w wc))
 case first =>
  have H := HC5.out
  clear HC5
  refine yE H ?_ ?_ <;> clear H <;> rintro ⟨c9b0, c9b1, c9⟩ H
  ·(first | rw [c9b0] | (simp only [Xbd, Xbh]; rw [c9b0]) | skip)
   have H' := zq H
   clear H
   obtain ⟨hcz12_0, hcz12_1, hcz12_2, hcz12_3, hfz12_0, hfz12_1, hfz12_2, hfz12_3⟩ := cz4 BK174.out
   go_wp2
   go_meet
   case rel => exact ⟨_, (true), J4, H', ⟨J31⟩, ⟨J151⟩, ⟨J129⟩⟩
  clear c9
  (first | rw [c9b0] | (simp only [Xbd, Xbh]; rw [c9b0]) | skip)
  have H' := zq H
  clear H
  obtain ⟨hcz10_0, hcz10_1, hcz10_2, hcz10_3, hfz10_0, hfz10_1, hfz10_2, hfz10_3⟩ := cz4 BK174.out
  obtain ⟨Ao11, co11, eo11⟩ := Kd.N_slice HO177.out
  subst eo11
  go_wp2
  go_meet
  case rel => exact ⟨_, (((t175.length : Int) == 0)), J4, H', ⟨J31⟩, ⟨J151⟩, ⟨J129⟩⟩
 case rest =>
  clear HC5
  try clear c2
  try clear c2b0
  try clear c2b1
  try clear c3
  try clear c3b0
  try clear c3b1
  try clear hcz7_0
  try clear hcz7_1
  try clear hcz7_2
  try clear hcz7_3
  try clear hfz7_0
  try clear hfz7_1
  try clear hfz7_2
  try clear hfz7_3
  try clear hx173_0
  try clear hx173_1
  try clear hx173_2
  try clear hx173_3
  try clear p173
  try clear q173
  obtain ⟨kq, x31_4, rfl, HA, HJ4, BK174, HB⟩ := hcut
  cases kq with
  | zero => exact absurd HA.out (by simp [deckleref11_form.j0])
  | succ kj4 =>
   have H := HA.out
   clear HA
   simp only [deckleref11_form.j0] at H
   refine yB H ?_ ?_ <;> clear H <;> rintro rfl H
   ·exact absurd H J88
   refine yv H ?_; clear H; rintro t178 A14 H
   refine yv H ?_; clear H; rintro ⟨t181, t182, t185, t188, t191⟩ A15 H
   dsimp only at H
   obtain ⟨y193, hy193⟩ : ∃ y_ : List (S32), y_ = (([(⟨t181, t182, t185, t188⟩ : S32)] : List (S32))) := ⟨_, rfl⟩
   rw (occs := .pos [1]) [← hy193] at H
   have Ny193 := zq hy193
   clear hy193
   obtain rfl := yo H
   try go_wp2
   replace BK174 := zq (Xe BK174.out)
   replace HB := zq (X8 HB.out)
   refine Xeh (n := 11) (S := fun w' => w'.cell? ⟨gb174, 0, none⟩ = some (.int .i64 ((Xa l0 0).f0)) ∧ w'.cell? ⟨gb174, 1, none⟩ = some (.slice A173_1 ((Xa l0 0).f1).length c173_1) ∧ w'.cell? ⟨gb174, 2, none⟩ = some (.slice A173_2 ((Xa l0 0).f2).length c173_2) ∧ w'.cell? ⟨gb174, 3, none⟩ = some (.slice A173_3 ((Xa l0 0).f3).length c173_3)) (ds := []) #[Z,Z,Z,Z,Z,Z,Z,Z,Z,Z,Z] J8 rfl rfl ⟨(Xm BK174.out 0).trans rfl, (Xm BK174.out 1).trans rfl, (Xm BK174.out 2).trans rfl, (Xm BK174.out 3).trans rfl⟩ (fun hHeld => ?_); refine Xc7 deckleref11_form.tab6 deckleref11_form.bits6 (fun HT_ HW_ => ?_)
   generalize wc.drew = w16 at BK174 HB hHeld ⊢
   refine Xbs (i := 0) (N := some 33) (v := ?_) (a' := ?_) #[Y,Z,Z,Z,Z,Z,Z,Z,Z,Z,Z] rfl rfl (Xbc HT_.out J8) (fun _ _ _ h => h) (Or.inl ⟨Xa5, ?_⟩) ?_ ?_
   rotate_left
   ·exact pz0
   rotate_left
   ·exact pz1
   refine Xd1 (i := 1) (N := some 34) (v := ?_) (a' := ?_) #[Y,Y,Z,Z,Z,Z,Z,Z,Z,Z,Z] rfl rfl (Xcw HT_.out HW_.out J8) (fun _ _ _ h => h) (Or.inl ⟨Xa5, ?_⟩) hHeld ?_ ?_
   rotate_left
   ·rintro w' ⟨s0, s1, s2, s3⟩
    go_simp
    with_reducible rfl
   rotate_left
   ·exact pz1
   refine Xd1 (i := 2) (N := some 35) (v := ?_) (a' := ?_) #[Y,Y,Y,Z,Z,Z,Z,Z,Z,Z,Z] rfl rfl (Xcw HT_.out HW_.out J8) (fun _ _ _ h => h) (Or.inl ⟨Xa5, ?_⟩) hHeld ?_ ?_
   rotate_left
   ·rintro w' ⟨s0, s1, s2, s3⟩
    go_simp
    with_reducible rfl
   rotate_left
   ·exact pz1
   refine join_ (σ := Value × Value × Value × Value × Nat) 2 #[Y,Y,Y,Y,Y,Y,Y,Y,Y,Z,Z] (fun s_ => [(36, s_.1), (37, .tuple #[.agg #[.int .i64 t181, s_.2.1, s_.2.2.1, s_.2.2.2.1], .bool t191]), (5, .pointer (some ⟨s_.2.2.2.2, 0, none⟩)), (32, .tuple #[.agg #[.int .i64 t181, s_.2.1, s_.2.2.1, s_.2.2.2.1], .bool t191]), (38, .agg #[.int .i64 t181, s_.2.1, s_.2.2.1, s_.2.2.2.1]), (39, .bool t191)]) (fun s_ w' => (w'.cell? ⟨gb174, 0, none⟩ = some (.int .i64 ((Xa l0 0).f0)) ∧ w'.cell? ⟨gb174, 1, none⟩ = some (.slice A173_1 ((Xa l0 0).f1).length c173_1) ∧ w'.cell? ⟨gb174, 2, none⟩ = some (.slice A173_2 ((Xa l0 0).f2).length c173_2) ∧ w'.cell? ⟨gb174, 3, none⟩ = some (.slice A173_3 ((Xa l0 0).f3).length c173_3)) ∧ (Kd.R k40 40 w' w.heap.size (fun k_ => (w.heap.size ≤ k_) ∧ some k_ ≠ (s_.2.2.2.1 : Value).ownBlock) s_.1 t178) ∧ (Kd.R (Kd.int .i64) 3 w' w.heap.size (fun k_ => (w.heap.size ≤ k_) ∧ some k_ ≠ (s_.2.2.1 : Value).ownBlock) s_.2.1 t182) ∧ (Kd.R (Kd.int .i64) 3 w' w.heap.size (fun k_ => (w.heap.size ≤ k_) ∧ some k_ ≠ (s_.2.1 : Value).ownBlock) s_.2.2.1 t185) ∧ (Kd.R k40 40 w' w.heap.size (fun k_ => (w.heap.size ≤ k_) ∧ some k_ ≠ (s_.1 : Value).ownBlock) s_.2.2.2.1 t188) ∧ (w'.heap[gb174]? = some (.cells #[.int .i64 ((Xa l0 0).f0), .slice A173_1 ((Xa l0 0).f1).length c173_1, .slice A173_2 ((Xa l0 0).f2).length c173_2, .slice A173_3 ((Xa l0 0).f3).length c173_3] 32 (0, 0))) ∧ (w'.heap[s_.2.2.2.2]? = some (.cells #[.int .i64 0, .slice none 0 0, .slice none 0 0, .slice none 0 0] 32 (0, 0))) ∧ (w.heap.size ≤ s_.2.2.2.2) ∧ (w.heap.size ≤ s_.2.2.2.2) ∧ (gb174 ≠ s_.2.2.2.2) ∧ (s_.2.2.2.2 ≠ gb174) ∧ (Below w.heap.size w w')) ?_ ?_
   rotate_left
   ·intro hCont
    refine two_ (i := 3) (j := 8) (Ni := some 36) (Nj := some 5) #[Y,Y,Y,Y,Z,Z,Z,Z,Z,Z,Z] #[Y,Y,Y,Z,Z,Z,Z,Z,Y,Z,Z] rfl rfl rfl rfl (two_of HT_.out J8) J11 J11 (fun K hK => ?_) (fun K hK => ?_)
    ·skip
     refine Xdj Tryd.func53 J8 rfl #[.agg #[.int .i64 ((Xa l0 0).f0), .slice A173_1 ((Xa l0 0).f1).length c173_1, .slice A173_2 ((Xa l0 0).f2).length c173_2, .slice A173_3 ((Xa l0 0).f3).length c173_3]] Xa5 rfl rfl J1 ?_
     with_reducible refine (Xad.calls kj4 ((Xa l0 0).f0) _ _ ((Xa l0 0).f1) _ _ ((Xa l0 0).f2) _ _ ((Xa l0 0).f3) t178 _ ?side1 ?side2 ?side3 ?side4 ?side5 ?side6 A14.out).mono ?_
     (case side1 => exact zc (Kd.C_below HR173_1.out HB.out))
     (case side2 => exact HC173_1.out)
     (case side3 => exact zc (Kd.C_below HR173_2.out HB.out))
     (case side4 => exact HC173_2.out)
     (case side5 => exact zc (Kd.C_below HR173_3.out HB.out))
     (case side6 => exact HC173_3.out)
     rintro e w17 ⟨v179, rfl, ho0, hb⟩
     refine ⟨_, rfl, ?_⟩
     have HO180 := zq (Kd.R_lower (Kd.R_newM (M := fun k_ => (w.heap.size ≤ k_)) ho0 (Xf (zs1 GE174.out)) (fun k_ h_ => h_)) (Xf (zs1 GE174.out)))
     replace BK174 := zq (Xh (g := gb174) (o := .cells #[.int .i64 ((Xa l0 0).f0), .slice A173_1 ((Xa l0 0).f1).length c173_1, .slice A173_2 ((Xa l0 0).f2).length c173_2, .slice A173_3 ((Xa l0 0).f3).length c173_3] 32 (0, 0)) (zk BK174.out) hb)
     replace HB := zq (Xd (zs1 GE174.out) hb)
     (try clear hb)
     (try clear hb2)
     (try clear hk)
     (try clear hi)
     (try clear ho0)
     obtain ⟨Ao18, co18, eo18⟩ := Kd.R_slice HO180.out
     (first | subst eo18 | (injection eo18 with f1_ f2_ f3_; have f4_ := f1_.symm; have f5_ := f3_.symm; clear f1_ f2_ f3_; subst f4_; subst f5_))
     refine hK.out _ _ ⟨(Xm BK174.out 0).trans rfl, (Xm BK174.out 1).trans rfl, (Xm BK174.out 2).trans rfl, (Xm BK174.out 3).trans rfl⟩ (fun hHeld => ?_)
     clear hK K
     refine Xcl (a' := ?_) ?_ ?_
     rotate_left
     ·show Act.put _ (some 36) _ = _
      simp only [Act.put, List.setIfInBounds_toArray, List.set_cons_zero, List.set_cons_succ, Xbd, Xbh]
      rfl
     refine two_ (i := 4) (j := 8) (Ni := some 37) (Nj := some 5) #[Y,Y,Y,Y,Y,Z,Z,Z,Z,Z,Z] #[Y,Y,Y,Y,Z,Z,Z,Z,Y,Z,Z] rfl rfl rfl rfl (two_of HT_.out J8) J11 J11 (fun K hK => ?_) (fun K hK => ?_)
     ·skip
      refine Xdj Tryd.func52 J8 rfl #[.slice A173_1 ((Xa l0 0).f1).length c173_1, .slice Ao18 t178.length co18] Xa5 rfl rfl J1 ?_
      with_reducible refine (deckleref11_Numbers.calls kj4 _ _ ((Xa l0 0).f1) _ _ t178 t181 t182 t185 t188 t191 _ ?side1 ?side2 ?side3 ?side4 A15.out).mono ?_
      (case side1 => exact zc (Kd.C_below HR173_1.out HB.out))
      (case side2 => exact HC173_1.out)
      (case side3 => exact zc ((Kd.R_reads' HO180.out).2.2))
      (case side4 => exact (Kd.R_reads' HO180.out).2.1)
      rintro e w19 ⟨v183, v186, v189, rfl, ho0, ho1, ho2, hb⟩
      refine ⟨_, rfl, ?_⟩
      have HO184 := zq (Kd.R_lower (Kd.R_newM (M := fun k_ => (w.heap.size ≤ k_)) ho0 (Xf (zs1 GE174.out)) (fun k_ h_ => h_)) (Xf (zs1 GE174.out)))
      have HO187 := zq (Kd.R_lower (Kd.R_newM (M := fun k_ => (w.heap.size ≤ k_)) ho1 (Xf (zs1 GE174.out)) (fun k_ h_ => h_)) (Xf (zs1 GE174.out)))
      have HO190 := zq (Kd.R_lower (Kd.R_new' (Kd.R_newM (M := fun k_ => (w.heap.size ≤ k_)) ho2 (Xf (zs1 GE174.out)) (fun k_ h_ => h_)) (Kd.R_lt (zr HO180.out))) (Xf (zs1 GE174.out)))
      replace HO180 := zq (Kd.R_elder' (zr HO180.out) (Kd.R_base ho2) hb)
      replace BK174 := zq (Xh (g := gb174) (o := .cells #[.int .i64 ((Xa l0 0).f0), .slice A173_1 ((Xa l0 0).f1).length c173_1, .slice A173_2 ((Xa l0 0).f2).length c173_2, .slice A173_3 ((Xa l0 0).f3).length c173_3] 32 (0, 0)) (zk BK174.out) hb)
      replace HB := zq (Xd (zs1 GE174.out) hb)
      (try clear hb)
      (try clear hb2)
      (try clear hk)
      (try clear hi)
      (try clear ho0)
      (try clear ho1)
      (try clear ho2)
      refine hK.out _ _ ⟨(Xm BK174.out 0).trans rfl, (Xm BK174.out 1).trans rfl, (Xm BK174.out 2).trans rfl, (Xm BK174.out 3).trans rfl⟩ (fun hHeld => ?_)
      clear hK K
      refine Xcl (a' := ?_) ?_ ?_
      rotate_left
      ·show Act.put _ (some 37) _ = _
       simp only [Act.put, List.setIfInBounds_toArray, List.set_cons_zero, List.set_cons_succ, Xbd, Xbh]
       rfl
      refine Xbs (i := 5) (N := some 32) (v := ?_) (a' := ?_) #[Y,Y,Y,Y,Y,Y,Z,Z,Z,Z,Z] rfl rfl (Xbc HT_.out J8) (fun _ _ _ h => h) (Or.inl ⟨Xa5, ?_⟩) ?_ ?_
      rotate_left
      ·exact pz0
      rotate_left
      ·exact pz1
      refine Xbs (i := 6) (N := some 38) (v := ?_) (a' := ?_) #[Y,Y,Y,Y,Y,Y,Y,Z,Z,Z,Z] rfl rfl (Xbc HT_.out J8) (fun _ _ _ h => h) (Or.inl ⟨Xa5, ?_⟩) ?_ ?_
      rotate_left
      ·exact pz0
      rotate_left
      ·exact pz1
      refine Xbs (i := 7) (N := some 39) (v := ?_) (a' := ?_) #[Y,Y,Y,Y,Y,Y,Y,Y,Z,Z,Z] rfl rfl (Xbc HT_.out J8) (fun _ _ _ h => h) (Or.inl ⟨Xa5, ?_⟩) ?_ ?_
      rotate_left
      ·exact pz0
      rotate_left
      ·exact pz1
      refine Xdy (i := 8) (N := some 5) #[Y,Y,Y,Y,Y,Y,Y,Y,Y,Z,Z] rfl rfl (Xct HT_.out J8) J11 (fun K hK => ?_)
      refine Xdv ?hg (N := 5) ?hd (cs := #[.int .i64 0, .slice none 0 0, .slice none 0 0, .slice none 0 0]) (t := 32) ?hr ?_; (case hd => rfl); (case hg => rfl); (case hr => first | (go_simp; done) | (go_simp; rfl))
      intro gb192 hg w20 hbox hb
      replace HO180 := zq (Kd.R_below (zr HO180.out) hb)
      replace HO184 := zq (Kd.R_below (zr HO184.out) hb)
      replace HO187 := zq (Kd.R_below (zr HO187.out) hb)
      replace HO190 := zq (Kd.R_below (zr HO190.out) hb)
      have BK192 := zq (hbox)
      have GW192 := zq ((J117 : w.heap.size ≤ gb192))
      have GE192 := zq ((J117 : w.heap.size ≤ gb192))
      replace HB := zq (Xd (zs1 GE174.out) hb)
      have NB174_192 := zq ((J61 : gb174 ≠ gb192))
      have NB192_174 := zq ((J62 : gb192 ≠ gb174))
      replace BK174 := zq (Xh (g := gb174) (o := .cells #[.int .i64 ((Xa l0 0).f0), .slice A173_1 ((Xa l0 0).f1).length c173_1, .slice A173_2 ((Xa l0 0).f2).length c173_2, .slice A173_3 ((Xa l0 0).f3).length c173_3] 32 (0, 0)) (zk BK174.out) hb)
      clear hb hbox hg
      refine hK.out _ _ ⟨(Xm BK174.out 0).trans rfl, (Xm BK174.out 1).trans rfl, (Xm BK174.out 2).trans rfl, (Xm BK174.out 3).trans rfl⟩ (fun hHeld => ?_)
      clear hK K
      refine Xcl (a' := ?_) ?_ ?_
      rotate_left
      ·show Act.put _ (some 5) _ = _
       simp only [Act.put, List.setIfInBounds_toArray, List.set_cons_zero, List.set_cons_succ, Xbd, Xbh]
       rfl
      exact Xcl J72 (hCont (.slice Ao18 t178.length co18, v183, v186, v189, gb192) _ ⟨hHeld, J97, (zr HO184.out), (zr HO187.out), J98, (zk BK174.out), (zk BK192.out), GW192.out, GE192.out, NB174_192.out, NB192_174.out, (zs2 GE174.out GE192.out)⟩)
     ·skip
      refine Xdv ?hg (N := 5) ?hd (cs := #[.int .i64 0, .slice none 0 0, .slice none 0 0, .slice none 0 0]) (t := 32) ?hr ?_; (case hd => rfl); (case hg => rfl); (case hr => first | (go_simp; done) | (go_simp; rfl))
      intro gb192 hg w18 hbox hb
      replace HO180 := zq (Kd.R_below (zr HO180.out) hb)
      have BK192 := zq (hbox)
      have GW192 := zq ((J117 : w.heap.size ≤ gb192))
      have GE192 := zq ((J117 : w.heap.size ≤ gb192))
      replace HB := zq (Xd (zs1 GE174.out) hb)
      have NB174_192 := zq ((J61 : gb174 ≠ gb192))
      have NB192_174 := zq ((J62 : gb192 ≠ gb174))
      replace BK174 := zq (Xh (g := gb174) (o := .cells #[.int .i64 ((Xa l0 0).f0), .slice A173_1 ((Xa l0 0).f1).length c173_1, .slice A173_2 ((Xa l0 0).f2).length c173_2, .slice A173_3 ((Xa l0 0).f3).length c173_3] 32 (0, 0)) (zk BK174.out) hb)
      clear hb hbox hg
      obtain ⟨Ao19, co19, eo19⟩ := Kd.R_slice HO180.out
      (first | subst eo19 | (injection eo19 with f1_ f2_ f3_; have f4_ := f1_.symm; have f5_ := f3_.symm; clear f1_ f2_ f3_; subst f4_; subst f5_))
      refine hK.out _ _ ⟨(Xm BK174.out 0).trans rfl, (Xm BK174.out 1).trans rfl, (Xm BK174.out 2).trans rfl, (Xm BK174.out 3).trans rfl⟩ (fun hHeld => ?_)
      clear hK K
      refine Xcl (a' := ?_) ?_ ?_
      rotate_left
      ·show Act.put _ (some 5) _ = _
       simp only [Act.put, List.setIfInBounds_toArray, List.set_cons_zero, List.set_cons_succ, Xbd, Xbh]
       rfl
      refine Xdy (i := 4) (N := some 37) #[Y,Y,Y,Y,Y,Z,Z,Z,Y,Z,Z] rfl rfl (Xct HT_.out J8) J11 (fun K hK => ?_)
      refine Xdj Tryd.func52 J8 rfl #[.slice A173_1 ((Xa l0 0).f1).length c173_1, .slice Ao19 t178.length co19] Xa5 rfl rfl J1 ?_
      with_reducible refine (deckleref11_Numbers.calls kj4 _ _ ((Xa l0 0).f1) _ _ t178 t181 t182 t185 t188 t191 _ ?side1 ?side2 ?side3 ?side4 A15.out).mono ?_
      (case side1 => exact zc (Kd.C_below HR173_1.out HB.out))
      (case side2 => exact HC173_1.out)
      (case side3 => exact zc ((Kd.R_reads' HO180.out).2.2))
      (case side4 => exact (Kd.R_reads' HO180.out).2.1)
      rintro e w20 ⟨v183, v186, v189, rfl, ho0, ho1, ho2, hb⟩
      refine ⟨_, rfl, ?_⟩
      have HO184 := zq (Kd.R_lower (Kd.R_newM (M := fun k_ => (w.heap.size ≤ k_)) ho0 (Xf (zs2 GE174.out GE192.out)) (fun k_ h_ => h_)) (Xf (zs2 GE174.out GE192.out)))
      have HO187 := zq (Kd.R_lower (Kd.R_newM (M := fun k_ => (w.heap.size ≤ k_)) ho1 (Xf (zs2 GE174.out GE192.out)) (fun k_ h_ => h_)) (Xf (zs2 GE174.out GE192.out)))
      have HO190 := zq (Kd.R_lower (Kd.R_new' (Kd.R_newM (M := fun k_ => (w.heap.size ≤ k_)) ho2 (Xf (zs2 GE174.out GE192.out)) (fun k_ h_ => h_)) (Kd.R_lt (zr HO180.out))) (Xf (zs2 GE174.out GE192.out)))
      replace HO180 := zq (Kd.R_elder' (zr HO180.out) (Kd.R_base ho2) hb)
      replace BK174 := zq (Xh (g := gb174) (o := .cells #[.int .i64 ((Xa l0 0).f0), .slice A173_1 ((Xa l0 0).f1).length c173_1, .slice A173_2 ((Xa l0 0).f2).length c173_2, .slice A173_3 ((Xa l0 0).f3).length c173_3] 32 (0, 0)) (zk BK174.out) hb)
      replace BK192 := zq (Xh (g := gb192) (o := .cells #[.int .i64 0, .slice none 0 0, .slice none 0 0, .slice none 0 0] 32 (0, 0)) (zk BK192.out) hb)
      replace HB := zq (Xd (zs2 GE174.out GE192.out) hb)
      (try clear hb)
      (try clear hb2)
      (try clear hk)
      (try clear hi)
      (try clear ho0)
      (try clear ho1)
      (try clear ho2)
      refine hK.out _ _ ⟨(Xm BK174.out 0).trans rfl, (Xm BK174.out 1).trans rfl, (Xm BK174.out 2).trans rfl, (Xm BK174.out 3).trans rfl⟩ (fun hHeld => ?_)
      clear hK K
      refine Xcl (a' := ?_) ?_ ?_
      rotate_left
      ·show Act.put _ (some 37) _ = _
       simp only [Act.put, List.setIfInBounds_toArray, List.set_cons_zero, List.set_cons_succ, Xbd, Xbh]
       rfl
      refine Xbs (i := 5) (N := some 32) (v := ?_) (a' := ?_) #[Y,Y,Y,Y,Y,Y,Z,Z,Y,Z,Z] rfl rfl (Xbc HT_.out J8) (fun _ _ _ h => h) (Or.inl ⟨Xa5, ?_⟩) ?_ ?_
      rotate_left
      ·exact pz0
      rotate_left
      ·exact pz1
      refine Xbs (i := 6) (N := some 38) (v := ?_) (a' := ?_) #[Y,Y,Y,Y,Y,Y,Y,Z,Y,Z,Z] rfl rfl (Xbc HT_.out J8) (fun _ _ _ h => h) (Or.inl ⟨Xa5, ?_⟩) ?_ ?_
      rotate_left
      ·exact pz0
      rotate_left
      ·exact pz1
      refine Xbs (i := 7) (N := some 39) (v := ?_) (a' := ?_) #[Y,Y,Y,Y,Y,Y,Y,Y,Y,Z,Z] rfl rfl (Xbc HT_.out J8) (fun _ _ _ h => h) (Or.inl ⟨Xa5, ?_⟩) ?_ ?_
      rotate_left
      ·exact pz0
      rotate_left
      ·exact pz1
      exact Xcl J72 (hCont (.slice Ao19 t178.length co19, v183, v186, v189, gb192) _ ⟨hHeld, J97, (zr HO184.out), (zr HO187.out), J98, (zk BK174.out), (zk BK192.out), GW192.out, GE192.out, NB174_192.out, NB192_174.out, (zs2 GE174.out GE192.out)⟩)
    ·skip
     refine Xdv ?hg (N := 5) ?hd (cs := #[.int .i64 0, .slice none 0 0, .slice none 0 0, .slice none 0 0]) (t := 32) ?hr ?_; (case hd => rfl); (case hg => rfl); (case hr => first | (go_simp; done) | (go_simp; rfl))
     intro gb192 hg w17 hbox hb
     have BK192 := zq (hbox)
     have GW192 := zq ((J117 : w.heap.size ≤ gb192))
     have GE192 := zq ((J117 : w.heap.size ≤ gb192))
     replace HB := zq (Xd (zs1 GE174.out) hb)
     have NB174_192 := zq ((J61 : gb174 ≠ gb192))
     have NB192_174 := zq ((J62 : gb192 ≠ gb174))
     replace BK174 := zq (Xh (g := gb174) (o := .cells #[.int .i64 ((Xa l0 0).f0), .slice A173_1 ((Xa l0 0).f1).length c173_1, .slice A173_2 ((Xa l0 0).f2).length c173_2, .slice A173_3 ((Xa l0 0).f3).length c173_3] 32 (0, 0)) (zk BK174.out) hb)
     clear hb hbox hg
     refine hK.out _ _ ⟨(Xm BK174.out 0).trans rfl, (Xm BK174.out 1).trans rfl, (Xm BK174.out 2).trans rfl, (Xm BK174.out 3).trans rfl⟩ (fun hHeld => ?_)
     clear hK K
     refine Xcl (a' := ?_) ?_ ?_
     rotate_left
     ·show Act.put _ (some 5) _ = _
      simp only [Act.put, List.setIfInBounds_toArray, List.set_cons_zero, List.set_cons_succ, Xbd, Xbh]
      rfl
     refine Xdy (i := 3) (N := some 36) #[Y,Y,Y,Y,Z,Z,Z,Z,Y,Z,Z] rfl rfl (Xct HT_.out J8) J11 (fun K hK => ?_)
     refine Xdj Tryd.func53 J8 rfl #[.agg #[.int .i64 ((Xa l0 0).f0), .slice A173_1 ((Xa l0 0).f1).length c173_1, .slice A173_2 ((Xa l0 0).f2).length c173_2, .slice A173_3 ((Xa l0 0).f3).length c173_3]] Xa5 rfl rfl J1 ?_
     with_reducible refine (Xad.calls kj4 ((Xa l0 0).f0) _ _ ((Xa l0 0).f1) _ _ ((Xa l0 0).f2) _ _ ((Xa l0 0).f3) t178 _ ?side1 ?side2 ?side3 ?side4 ?side5 ?side6 A14.out).mono ?_
     (case side1 => exact zc (Kd.C_below HR173_1.out HB.out))
     (case side2 => exact HC173_1.out)
     (case side3 => exact zc (Kd.C_below HR173_2.out HB.out))
     (case side4 => exact HC173_2.out)
     (case side5 => exact zc (Kd.C_below HR173_3.out HB.out))
     (case side6 => exact HC173_3.out)
     rintro e w18 ⟨v179, rfl, ho0, hb⟩
     refine ⟨_, rfl, ?_⟩
     have HO180 := zq (Kd.R_lower (Kd.R_newM (M := fun k_ => (w.heap.size ≤ k_)) ho0 (Xf (zs2 GE174.out GE192.out)) (fun k_ h_ => h_)) (Xf (zs2 GE174.out GE192.out)))
     replace BK174 := zq (Xh (g := gb174) (o := .cells #[.int .i64 ((Xa l0 0).f0), .slice A173_1 ((Xa l0 0).f1).length c173_1, .slice A173_2 ((Xa l0 0).f2).length c173_2, .slice A173_3 ((Xa l0 0).f3).length c173_3] 32 (0, 0)) (zk BK174.out) hb)
     replace BK192 := zq (Xh (g := gb192) (o := .cells #[.int .i64 0, .slice none 0 0, .slice none 0 0, .slice none 0 0] 32 (0, 0)) (zk BK192.out) hb)
     replace HB := zq (Xd (zs2 GE174.out GE192.out) hb)
     (try clear hb)
     (try clear hb2)
     (try clear hk)
     (try clear hi)
     (try clear ho0)
     obtain ⟨Ao19, co19, eo19⟩ := Kd.R_slice HO180.out
     (first | subst eo19 | (injection eo19 with f1_ f2_ f3_; have f4_ := f1_.symm; have f5_ := f3_.symm; clear f1_ f2_ f3_; subst f4_; subst f5_))
     refine hK.out _ _ ⟨(Xm BK174.out 0).trans rfl, (Xm BK174.out 1).trans rfl, (Xm BK174.out 2).trans rfl, (Xm BK174.out 3).trans rfl⟩ (fun hHeld => ?_)
     clear hK K
     refine Xcl (a' := ?_) ?_ ?_
     rotate_left
     ·show Act.put _ (some 36) _ = _
      simp only [Act.put, List.setIfInBounds_toArray, List.set_cons_zero, List.set_cons_succ, Xbd, Xbh]
      rfl
     refine Xdy (i := 4) (N := some 37) #[Y,Y,Y,Y,Y,Z,Z,Z,Y,Z,Z] rfl rfl (Xct HT_.out J8) J11 (fun K hK => ?_)
     refine Xdj Tryd.func52 J8 rfl #[.slice A173_1 ((Xa l0 0).f1).length c173_1, .slice Ao19 t178.length co19] Xa5 rfl rfl J1 ?_
     with_reducible refine (deckleref11_Numbers.calls kj4 _ _ ((Xa l0 0).f1) _ _ t178 t181 t182 t185 t188 t191 _ ?side1 ?side2 ?side3 ?side4 A15.out).mono ?_
     (case side1 => exact zc (Kd.C_below HR173_1.out HB.out))
     (case side2 => exact HC173_1.out)
     (case side3 => exact zc ((Kd.R_reads' HO180.out).2.2))
     (case side4 => exact (Kd.R_reads' HO180.out).2.1)
     rintro e w20 ⟨v183, v186, v189, rfl, ho0, ho1, ho2, hb⟩
     refine ⟨_, rfl, ?_⟩
     have HO184 := zq (Kd.R_lower (Kd.R_newM (M := fun k_ => (w.heap.size ≤ k_)) ho0 (Xf (zs2 GE174.out GE192.out)) (fun k_ h_ => h_)) (Xf (zs2 GE174.out GE192.out)))
     have HO187 := zq (Kd.R_lower (Kd.R_newM (M := fun k_ => (w.heap.size ≤ k_)) ho1 (Xf (zs2 GE174.out GE192.out)) (fun k_ h_ => h_)) (Xf (zs2 GE174.out GE192.out)))
     have HO190 := zq (Kd.R_lower (Kd.R_new' (Kd.R_newM (M := fun k_ => (w.heap.size ≤ k_)) ho2 (Xf (zs2 GE174.out GE192.out)) (fun k_ h_ => h_)) (Kd.R_lt (zr HO180.out))) (Xf (zs2 GE174.out GE192.out)))
     replace HO180 := zq (Kd.R_elder' (zr HO180.out) (Kd.R_base ho2) hb)
     replace BK174 := zq (Xh (g := gb174) (o := .cells #[.int .i64 ((Xa l0 0).f0), .slice A173_1 ((Xa l0 0).f1).length c173_1, .slice A173_2 ((Xa l0 0).f2).length c173_2, .slice A173_3 ((Xa l0 0).f3).length c173_3] 32 (0, 0)) (zk BK174.out) hb)
     replace BK192 := zq (Xh (g := gb192) (o := .cells #[.int .i64 0, .slice none 0 0, .slice none 0 0, .slice none 0 0] 32 (0, 0)) (zk BK192.out) hb)
     replace HB := zq (Xd (zs2 GE174.out GE192.out) hb)
     (try clear hb)
     (try clear hb2)
     (try clear hk)
     (try clear hi)
     (try clear ho0)
     (try clear ho1)
     (try clear ho2)
     refine hK.out _ _ ⟨(Xm BK174.out 0).trans rfl, (Xm BK174.out 1).trans rfl, (Xm BK174.out 2).trans rfl, (Xm BK174.out 3).trans rfl⟩ (fun hHeld => ?_)
     clear hK K
     refine Xcl (a' := ?_) ?_ ?_
     rotate_left
     ·show Act.put _ (some 37) _ = _
      simp only [Act.put, List.setIfInBounds_toArray, List.set_cons_zero, List.set_cons_succ, Xbd, Xbh]
      rfl
     refine Xbs (i := 5) (N := some 32) (v := ?_) (a' := ?_) #[Y,Y,Y,Y,Y,Y,Z,Z,Y,Z,Z] rfl rfl (Xbc HT_.out J8) (fun _ _ _ h => h) (Or.inl ⟨Xa5, ?_⟩) ?_ ?_
     rotate_left
     ·exact pz0
     rotate_left
     ·exact pz1
     refine Xbs (i := 6) (N := some 38) (v := ?_) (a' := ?_) #[Y,Y,Y,Y,Y,Y,Y,Z,Y,Z,Z] rfl rfl (Xbc HT_.out J8) (fun _ _ _ h => h) (Or.inl ⟨Xa5, ?_⟩) ?_ ?_
     rotate_left
     ·exact pz0
     rotate_left
     ·exact pz1
     refine Xbs (i := 7) (N := some 39) (v := ?_) (a' := ?_) #[Y,Y,Y,Y,Y,Y,Y,Y,Y,Z,Z] rfl rfl (Xbc HT_.out J8) (fun _ _ _ h => h) (Or.inl ⟨Xa5, ?_⟩) ?_ ?_
     rotate_left
     ·exact pz0
     rotate_left
     ·exact pz1
     exact Xcl J72 (hCont (.slice Ao19 t178.length co19, v183, v186, v189, gb192) _ ⟨hHeld, J97, (zr HO184.out), (zr HO187.out), J98, (zk BK174.out), (zk BK192.out), GW192.out, GE192.out, NB174_192.out, NB192_174.out, (zs2 GE174.out GE192.out)⟩)
   rintro ⟨v179, v183, v186, v189, gb192⟩ w21 ⟨hS_, h0_, h1_, h2_, h3_, h4_, h5_, h6_, h7_, h8_, h9_, h10_⟩
   have n0_ : Aside0 (Kd.R k40 40 w21 w.heap.size (fun k_ => (w.heap.size ≤ k_) ∧ some k_ ≠ (v189 : Value).ownBlock) v179 t178) := ⟨h0_⟩
   have n1_ : Aside0 (Kd.R (Kd.int .i64) 3 w21 w.heap.size (fun k_ => (w.heap.size ≤ k_) ∧ some k_ ≠ (v186 : Value).ownBlock) v183 t182) := ⟨h1_⟩
   have n2_ : Aside0 (Kd.R (Kd.int .i64) 3 w21 w.heap.size (fun k_ => (w.heap.size ≤ k_) ∧ some k_ ≠ (v183 : Value).ownBlock) v186 t185) := ⟨h2_⟩
   have n3_ : Aside0 (Kd.R k40 40 w21 w.heap.size (fun k_ => (w.heap.size ≤ k_) ∧ some k_ ≠ (v179 : Value).ownBlock) v189 t188) := ⟨h3_⟩
   have n4_ : Aside0 (w21.heap[gb174]? = some (.cells #[.int .i64 ((Xa l0 0).f0), .slice A173_1 ((Xa l0 0).f1).length c173_1, .slice A173_2 ((Xa l0 0).f2).length c173_2, .slice A173_3 ((Xa l0 0).f3).length c173_3] 32 (0, 0))) := ⟨h4_⟩
   have n5_ : Aside0 (w21.heap[gb192]? = some (.cells #[.int .i64 0, .slice none 0 0, .slice none 0 0, .slice none 0 0] 32 (0, 0))) := ⟨h5_⟩
   have n6_ : Aside0 (w.heap.size ≤ gb192) := ⟨h6_⟩
   have n7_ : Aside0 (w.heap.size ≤ gb192) := ⟨h7_⟩
   have n8_ : Aside0 (gb174 ≠ gb192) := ⟨h8_⟩
   have n9_ : Aside0 (gb192 ≠ gb174) := ⟨h9_⟩
   have n10_ : Aside0 (Below w.heap.size w w21) := ⟨h10_⟩
   clear BK174
   clear HB
   clear h0_ h1_ h2_ h3_ h4_ h5_ h6_ h7_ h8_ h9_ h10_
   have HO180 := n0_
   have HO184 := n1_
   have HO187 := n2_
   have HO190 := n3_
   have BK174 := n4_
   have BK192 := n5_
   have GW192 := n6_
   have GE192 := n7_
   have NB174_192 := n8_
   have NB192_174 := n9_
   have HB := n10_
   clear n0_ n1_ n2_ n3_ n4_ n5_ n6_ n7_ n8_ n9_ n10_
   have hHeld : w21.cell? ⟨gb174, 0, none⟩ = some (.int .i64 ((Xa l0 0).f0)) ∧ w21.cell? ⟨gb174, 1, none⟩ = some (.slice A173_1 ((Xa l0 0).f1).length c173_1) ∧ w21.cell? ⟨gb174, 2, none⟩ = some (.slice A173_2 ((Xa l0 0).f2).length c173_2) ∧ w21.cell? ⟨gb174, 3, none⟩ = some (.slice A173_3 ((Xa l0 0).f3).length c173_3) := hS_
   obtain ⟨Ao23, co23, eo23⟩ := Kd.R_slice HO184.out
   (first | subst eo23 | (injection eo23 with f1_ f2_ f3_; have f4_ := f1_.symm; have f5_ := f3_.symm; clear f1_ f2_ f3_; subst f4_; subst f5_))
   obtain ⟨Ao25, co25, eo25⟩ := Kd.R_slice HO187.out
   (first | subst eo25 | (injection eo25 with f1_ f2_ f3_; have f4_ := f1_.symm; have f5_ := f3_.symm; clear f1_ f2_ f3_; subst f4_; subst f5_))
   obtain ⟨Ao27, co27, eo27⟩ := Kd.R_slice HO190.out
   (first | subst eo27 | (injection eo27 with f1_ f2_ f3_; have f4_ := f1_.symm; have f5_ := f3_.symm; clear f1_ f2_ f3_; subst f4_; subst f5_))
   refine Xcl (a' := ?_) ?_ ?_
   rotate_left
   ·simp only [putAll, Act.put, List.setIfInBounds_toArray, List.set_cons_zero, List.set_cons_succ]
    rfl
   refine Xdy (i := 9) (N := none) #[Y,Y,Y,Y,Y,Y,Y,Y,Y,Y,Z] rfl rfl (Xct HT_.out J8) J11 (fun K hK => ?_)
   have hs22 : w21.cell? ⟨gb192, 0, none⟩ = some (.int .i64 0) := (Xm BK192.out 0).trans rfl
   have hfs22 := Xa8 BK192.out 0
   have hns22_0 := NB174_192.out
   have hms22_0 := NB192_174.out
   have hs24 : w21.cell? ⟨gb192, 1, none⟩ = some (.slice none 0 0) := (Xm BK192.out 1).trans rfl
   have hfs24 := Xa8 BK192.out 1
   have hns24_0 := NB174_192.out
   have hms24_0 := NB192_174.out
   have hs26 : w21.cell? ⟨gb192, 2, none⟩ = some (.slice none 0 0) := (Xm BK192.out 2).trans rfl
   have hfs26 := Xa8 BK192.out 2
   have hns26_0 := NB174_192.out
   have hms26_0 := NB192_174.out
   have hs28 : w21.cell? ⟨gb192, 3, none⟩ = some (.slice none 0 0) := (Xm BK192.out 3).trans rfl
   have hfs28 := Xa8 BK192.out 3
   have hns28_0 := NB174_192.out
   have hms28_0 := NB192_174.out
   refine skip_ (w1 := ?_) Xa5 rfl ?_ ?_
   rotate_left
   ·go_simp
    rfl
   refine hK.out _ _ ⟨((X7 (p := ⟨gb192, _, none⟩) NB174_192.out _).trans (((X7 (p := ⟨gb192, _, none⟩) NB174_192.out _).trans (((X7 (p := ⟨gb192, _, none⟩) NB174_192.out _).trans (((X7 (p := ⟨gb192, _, none⟩) NB174_192.out _).trans (hHeld.1)))))))), ((X7 (p := ⟨gb192, _, none⟩) NB174_192.out _).trans (((X7 (p := ⟨gb192, _, none⟩) NB174_192.out _).trans (((X7 (p := ⟨gb192, _, none⟩) NB174_192.out _).trans (((X7 (p := ⟨gb192, _, none⟩) NB174_192.out _).trans (hHeld.2.1)))))))), ((X7 (p := ⟨gb192, _, none⟩) NB174_192.out _).trans (((X7 (p := ⟨gb192, _, none⟩) NB174_192.out _).trans (((X7 (p := ⟨gb192, _, none⟩) NB174_192.out _).trans (((X7 (p := ⟨gb192, _, none⟩) NB174_192.out _).trans (hHeld.2.2.1)))))))), ((X7 (p := ⟨gb192, _, none⟩) NB174_192.out _).trans (((X7 (p := ⟨gb192, _, none⟩) NB174_192.out _).trans (((X7 (p := ⟨gb192, _, none⟩) NB174_192.out _).trans (((X7 (p := ⟨gb192, _, none⟩) NB174_192.out _).trans (hHeld.2.2.2))))))))⟩ (fun hHeld => ?_)
   clear hK K
   refine Xbs (i := 10) (N := some 6) (v := ?_) (a' := ?_) #[Y,Y,Y,Y,Y,Y,Y,Y,Y,Y,Y] rfl rfl (Xbc HT_.out J8) (fun _ _ _ h => h) (Or.inl ⟨Xa5, ?_⟩) ?_ ?_
   rotate_left
   ·exact pz0
   rotate_left
   ·exact pz1
   refine done_ (Xdz HT_.out J8) ?_
   have n0_ : Aside0 (Kd.R k40 40 ((((w21.setCell ⟨gb192, 0, none⟩ (.int .i64 t181)).setCell ⟨gb192, 1, none⟩ (.slice Ao23 t182.length co23)).setCell ⟨gb192, 2, none⟩ (.slice Ao25 t185.length co25)).setCell ⟨gb192, 3, none⟩ (.slice Ao27 t188.length co27)) w.heap.size (fun k_ => (w.heap.size ≤ k_) ∧ some k_ ≠ (.slice Ao27 t188.length co27 : Value).ownBlock) v179 t178) := ⟨by (with_reducible repeat (first | apply Kd.R_alloc | apply Kd.R_drewN | apply Kd.R_drew)); exact Kd.R_mono (Kd.R_far (p := ⟨gb192, 3, none⟩) (Kd.R_far (p := ⟨gb192, 2, none⟩) (Kd.R_far (p := ⟨gb192, 1, none⟩) (Kd.R_far (p := ⟨gb192, 0, none⟩) (Kd.R_types HO180.out BK192.out J11) (fun _ hk => hk.2) (.int .i64 t181)) (fun _ hk => hk.2) (.slice Ao23 t182.length co23)) (fun _ hk => hk.2) (.slice Ao25 t185.length co25)) (fun _ hk => hk.2) (.slice Ao27 t188.length co27)) (fun _ hk => ⟨hk.1.1, hk.1.2⟩)⟩
   have n1_ : Aside0 (Kd.R (Kd.int .i64) 3 ((((w21.setCell ⟨gb192, 0, none⟩ (.int .i64 t181)).setCell ⟨gb192, 1, none⟩ (.slice Ao23 t182.length co23)).setCell ⟨gb192, 2, none⟩ (.slice Ao25 t185.length co25)).setCell ⟨gb192, 3, none⟩ (.slice Ao27 t188.length co27)) w.heap.size (fun k_ => (w.heap.size ≤ k_) ∧ some k_ ≠ (.slice Ao25 t185.length co25 : Value).ownBlock) (.slice Ao23 t182.length co23) t182) := ⟨by (with_reducible repeat (first | apply Kd.R_alloc | apply Kd.R_drewN | apply Kd.R_drew)); exact Kd.R_mono (Kd.R_far (p := ⟨gb192, 3, none⟩) (Kd.R_far (p := ⟨gb192, 2, none⟩) (Kd.R_far (p := ⟨gb192, 1, none⟩) (Kd.R_far (p := ⟨gb192, 0, none⟩) (Kd.R_types HO184.out BK192.out J11) (fun _ hk => hk.2) (.int .i64 t181)) (fun _ hk => hk.2) (.slice Ao23 t182.length co23)) (fun _ hk => hk.2) (.slice Ao25 t185.length co25)) (fun _ hk => hk.2) (.slice Ao27 t188.length co27)) (fun _ hk => ⟨hk.1.1, hk.1.2⟩)⟩
   have n2_ : Aside0 (Kd.R (Kd.int .i64) 3 ((((w21.setCell ⟨gb192, 0, none⟩ (.int .i64 t181)).setCell ⟨gb192, 1, none⟩ (.slice Ao23 t182.length co23)).setCell ⟨gb192, 2, none⟩ (.slice Ao25 t185.length co25)).setCell ⟨gb192, 3, none⟩ (.slice Ao27 t188.length co27)) w.heap.size (fun k_ => (w.heap.size ≤ k_) ∧ some k_ ≠ (.slice Ao23 t182.length co23 : Value).ownBlock) (.slice Ao25 t185.length co25) t185) := ⟨by (with_reducible repeat (first | apply Kd.R_alloc | apply Kd.R_drewN | apply Kd.R_drew)); exact Kd.R_mono (Kd.R_far (p := ⟨gb192, 3, none⟩) (Kd.R_far (p := ⟨gb192, 2, none⟩) (Kd.R_far (p := ⟨gb192, 1, none⟩) (Kd.R_far (p := ⟨gb192, 0, none⟩) (Kd.R_types HO187.out BK192.out J11) (fun _ hk => hk.2) (.int .i64 t181)) (fun _ hk => hk.2) (.slice Ao23 t182.length co23)) (fun _ hk => hk.2) (.slice Ao25 t185.length co25)) (fun _ hk => hk.2) (.slice Ao27 t188.length co27)) (fun _ hk => ⟨hk.1.1, hk.1.2⟩)⟩
   have n3_ : Aside0 (Kd.R k40 40 ((((w21.setCell ⟨gb192, 0, none⟩ (.int .i64 t181)).setCell ⟨gb192, 1, none⟩ (.slice Ao23 t182.length co23)).setCell ⟨gb192, 2, none⟩ (.slice Ao25 t185.length co25)).setCell ⟨gb192, 3, none⟩ (.slice Ao27 t188.length co27)) w.heap.size (fun k_ => (w.heap.size ≤ k_) ∧ some k_ ≠ (v179 : Value).ownBlock) (.slice Ao27 t188.length co27) t188) := ⟨by (with_reducible repeat (first | apply Kd.R_alloc | apply Kd.R_drewN | apply Kd.R_drew)); exact Kd.R_mono (Kd.R_far (p := ⟨gb192, 3, none⟩) (Kd.R_far (p := ⟨gb192, 2, none⟩) (Kd.R_far (p := ⟨gb192, 1, none⟩) (Kd.R_far (p := ⟨gb192, 0, none⟩) (Kd.R_types HO190.out BK192.out J11) (fun _ hk => hk.2) (.int .i64 t181)) (fun _ hk => hk.2) (.slice Ao23 t182.length co23)) (fun _ hk => hk.2) (.slice Ao25 t185.length co25)) (fun _ hk => hk.2) (.slice Ao27 t188.length co27)) (fun _ hk => ⟨hk.1.1, hk.1.2⟩)⟩
   have n4_ : Aside0 (((((w21.setCell ⟨gb192, 0, none⟩ (.int .i64 t181)).setCell ⟨gb192, 1, none⟩ (.slice Ao23 t182.length co23)).setCell ⟨gb192, 2, none⟩ (.slice Ao25 t185.length co25)).setCell ⟨gb192, 3, none⟩ (.slice Ao27 t188.length co27)).heap[gb174]? = some (.cells #[.int .i64 ((Xa l0 0).f0), .slice A173_1 ((Xa l0 0).f1).length c173_1, .slice A173_2 ((Xa l0 0).f2).length c173_2, .slice A173_3 ((Xa l0 0).f3).length c173_3] 32 (0, 0))) := ⟨by (with_reducible repeat (first | refine Xc ?_ _ | refine Xe ?_ | refine Xb ?_ _)); refine Xab ?_ NB174_192.out _; (with_reducible repeat (first | refine Xc ?_ _ | refine Xe ?_ | refine Xb ?_ _)); refine Xab ?_ NB174_192.out _; (with_reducible repeat (first | refine Xc ?_ _ | refine Xe ?_ | refine Xb ?_ _)); refine Xab ?_ NB174_192.out _; (with_reducible repeat (first | refine Xc ?_ _ | refine Xe ?_ | refine Xb ?_ _)); refine Xab ?_ NB174_192.out _; (with_reducible repeat (first | refine Xc ?_ _ | refine Xe ?_ | refine Xb ?_ _)); exact BK174.out⟩
   have n5_ : Aside0 (((((w21.setCell ⟨gb192, 0, none⟩ (.int .i64 t181)).setCell ⟨gb192, 1, none⟩ (.slice Ao23 t182.length co23)).setCell ⟨gb192, 2, none⟩ (.slice Ao25 t185.length co25)).setCell ⟨gb192, 3, none⟩ (.slice Ao27 t188.length co27)).heap[gb192]? = some (.cells #[.int .i64 t181, .slice Ao23 t182.length co23, .slice Ao25 t185.length co25, .slice Ao27 t188.length co27] 32 (0, 0))) := ⟨by (with_reducible repeat (first | refine Xc ?_ _ | refine Xe ?_ | refine Xb ?_ _)); refine Xj (cs := #[.int .i64 t181, .slice Ao23 t182.length co23, .slice Ao25 t185.length co25, .slice none 0 0]) ?_ 3 _ rfl; (with_reducible repeat (first | refine Xc ?_ _ | refine Xe ?_ | refine Xb ?_ _)); refine Xj (cs := #[.int .i64 t181, .slice Ao23 t182.length co23, .slice none 0 0, .slice none 0 0]) ?_ 2 _ rfl; (with_reducible repeat (first | refine Xc ?_ _ | refine Xe ?_ | refine Xb ?_ _)); refine Xj (cs := #[.int .i64 t181, .slice none 0 0, .slice none 0 0, .slice none 0 0]) ?_ 1 _ rfl; (with_reducible repeat (first | refine Xc ?_ _ | refine Xe ?_ | refine Xb ?_ _)); refine Xj (cs := #[.int .i64 0, .slice none 0 0, .slice none 0 0, .slice none 0 0]) ?_ 0 _ rfl; (with_reducible repeat (first | refine Xc ?_ _ | refine Xe ?_ | refine Xb ?_ _)); exact BK192.out⟩
   have n6_ : Aside0 (Below w.heap.size w ((((w21.setCell ⟨gb192, 0, none⟩ (.int .i64 t181)).setCell ⟨gb192, 1, none⟩ (.slice Ao23 t182.length co23)).setCell ⟨gb192, 2, none⟩ (.slice Ao25 t185.length co25)).setCell ⟨gb192, 3, none⟩ (.slice Ao27 t188.length co27))) := ⟨J121⟩
   (try clear HO180)
   (try clear HO184)
   (try clear HO187)
   (try clear HO190)
   (try clear BK174)
   (try clear BK192)
   (try clear HB)
   generalize ((((w21.setCell ⟨gb192, 0, none⟩ (.int .i64 t181)).setCell ⟨gb192, 1, none⟩ (.slice Ao23 t182.length co23)).setCell ⟨gb192, 2, none⟩ (.slice Ao25 t185.length co25)).setCell ⟨gb192, 3, none⟩ (.slice Ao27 t188.length co27)) = w29 at n0_ n1_ n2_ n3_ n4_ n5_ n6_ ⊢
   have HO180 := n0_
   have HO184 := n1_
   have HO187 := n2_
   have HO190 := n3_
   have BK174 := n4_
   have BK192 := n5_
   have HB := n6_
   clear n0_ n1_ n2_ n3_ n4_ n5_ n6_
   have hnb30 := NB192_174.out
   have hnc30 := NB174_192.out
   obtain ⟨hcz31_0, hcz31_1, hcz31_2, hcz31_3, hfz31_0, hfz31_1, hfz31_2, hfz31_3⟩ := cz4 BK192.out
   try go_wp2_with (first | ((with_reducible refine Xk (N := 41) rfl ?_); (try (refine Xaz Xa5 ?_; dsimp only)); refine Kd.N_lit k32 _ 32 ?hg (N' := 41) ?hd (xs := ([(⟨t181, t182, t185, t188⟩ : S32)] : List (S32))) (inner := [.int .i64 t181, .slice Ao23 t182.length co23, .slice Ao25 t185.length co25, .slice Ao27 t188.length co27]) (ok := (fun k_ => (w.heap.size ≤ k_) ∧ some k_ ≠ (v179 : Value).ownBlock ∧ k_ ≠ gb174 ∧ k_ ≠ gb192)) (okp := (fun k_ => (w.heap.size ≤ k_) ∧ some k_ ≠ (v179 : Value).ownBlock ∧ k_ ≠ gb174 ∧ k_ ≠ gb192)) ?hr ?hp (fun _ hk => hk) ((show ∀ k_, w29.heap.size ≤ k_ → (fun k_ => (w.heap.size ≤ k_) ∧ some k_ ≠ (v179 : Value).ownBlock ∧ k_ ≠ gb174 ∧ k_ ≠ gb192) k_ from fun k_ hk => ⟨(Nat.le_trans (Xf (zs2 GE174.out GE192.out)) hk), Kd.fresh' (Kd.R_lt (zr HO180.out)) k_ hk, Kd.freshB (g := gb174) (o := .cells #[.int .i64 ((Xa l0 0).f0), .slice A173_1 ((Xa l0 0).f1).length c173_1, .slice A173_2 ((Xa l0 0).f2).length c173_2, .slice A173_3 ((Xa l0 0).f3).length c173_3] 32 (0, 0)) (zk BK174.out) k_ hk, Kd.freshB (g := gb192) (o := .cells #[.int .i64 t181, .slice Ao23 t182.length co23, .slice Ao25 t185.length co25, .slice Ao27 t188.length co27] 32 (0, 0)) (zk BK192.out) k_ hk⟩) _ (Nat.le_refl _)) (Below.refl _ _) (Nat.le_refl _) J88 ?_; (case hd => rfl); (case hg => rfl); (case hr => first | (go_simp; done) | (go_simp; rfl)); (case hp => exact (Reps.c4 (show Kd.FK k32 _ _ (⟨t181, t182, t185, t188⟩ : S32) [.int .i64 t181, .slice Ao23 t182.length co23, .slice Ao25 t185.length co25, .slice Ao27 t188.length co27] from (Xcx _ _ (⟨t181, t182, t185, t188⟩ : S32) (Kd.R_reads' (Kd.R_mono (ok' := (fun k_ => (w.heap.size ≤ k_) ∧ some k_ ≠ (v179 : Value).ownBlock ∧ k_ ≠ gb174 ∧ k_ ≠ gb192)) (Kd.R_types (Kd.R_types (Kd.R_apart' (HO184.out) (Kd.R_typed HO180.out) J11) BK174.out J11) BK192.out J11) (fun k_ hk => ⟨hk.1.1.1.1, ⟨hk.1.1.2, ⟨hk.1.2, hk.2⟩⟩⟩))).2.1 (Kd.R_F (Kd.R_mono (ok' := (fun k_ => (w.heap.size ≤ k_) ∧ some k_ ≠ (v179 : Value).ownBlock ∧ k_ ≠ gb174 ∧ k_ ≠ gb192)) (Kd.R_types (Kd.R_types (Kd.R_apart' (HO184.out) (Kd.R_typed HO180.out) J11) BK174.out J11) BK192.out J11) (fun k_ hk => ⟨hk.1.1.1.1, ⟨hk.1.1.2, ⟨hk.1.2, hk.2⟩⟩⟩))) (Kd.R_reads' (Kd.R_mono (ok' := (fun k_ => (w.heap.size ≤ k_) ∧ some k_ ≠ (v179 : Value).ownBlock ∧ k_ ≠ gb174 ∧ k_ ≠ gb192)) (Kd.R_types (Kd.R_types (Kd.R_apart' (HO187.out) (Kd.R_typed HO180.out) J11) BK174.out J11) BK192.out J11) (fun k_ hk => ⟨hk.1.1.1.1, ⟨hk.1.1.2, ⟨hk.1.2, hk.2⟩⟩⟩))).2.1 (Kd.R_F (Kd.R_mono (ok' := (fun k_ => (w.heap.size ≤ k_) ∧ some k_ ≠ (v179 : Value).ownBlock ∧ k_ ≠ gb174 ∧ k_ ≠ gb192)) (Kd.R_types (Kd.R_types (Kd.R_apart' (HO187.out) (Kd.R_typed HO180.out) J11) BK174.out J11) BK192.out J11) (fun k_ hk => ⟨hk.1.1.1.1, ⟨hk.1.1.2, ⟨hk.1.2, hk.2⟩⟩⟩))) (Kd.R_reads' (Kd.R_mono (ok' := (fun k_ => (w.heap.size ≤ k_) ∧ some k_ ≠ (v179 : Value).ownBlock ∧ k_ ≠ gb174 ∧ k_ ≠ gb192)) (Kd.R_types (Kd.R_types (HO190.out) BK174.out J11) BK192.out J11) (fun k_ hk => ⟨hk.1.1.1, ⟨hk.1.1.2, ⟨hk.1.2, hk.2⟩⟩⟩))).2.1 (Kd.R_F (Kd.R_mono (ok' := (fun k_ => (w.heap.size ≤ k_) ∧ some k_ ≠ (v179 : Value).ownBlock ∧ k_ ≠ gb174 ∧ k_ ≠ gb192)) (Kd.R_types (Kd.R_types (HO190.out) BK174.out J11) BK192.out J11) (fun k_ hk => ⟨hk.1.1.1, ⟨hk.1.1.2, ⟨hk.1.2, hk.2⟩⟩⟩))))) (Reps.none _ _))); intro v194 w32 ho33 hb hg_ hnew_; clear hg_ hnew_; (first | rw [← Ny193.out] at ho33 | (simp only [Int.reduceToNat] at ho33; rw [← Ny193.out] at ho33)); have HO195 := zq (Kd.N_lower ho33 (Xf (zs2 GE174.out GE192.out))); replace HB := zq (Xd (zs2 GE174.out GE192.out) hb); clear HO184 HO187 HO190; clear hb ho33))
   go_ret
   exact ⟨_, J2, by (with_reducible repeat (first | apply Kd.N_alloc | apply Kd.N_drewN | apply Kd.N_drew)); exact Kd.N_mono HO195.out (fun _ hk => hk.1), J121⟩
def Xb1.f (k : Nat) (l0 : List (S32)) : Option ((List (S32)) × Bool) := (Xa7.f k l0).bind fun t196 => (if t196 = true then ((deckleref11_form.f k l0).bind fun t197 => (some (t197, true))) else (some (([] : List (S32)), false)))
theorem Xb1.mono : ∀ a0 k, LeO (Xb1.f k a0) (Xb1.f (k + 1) a0) := by
 intro a0 k
 unfold Xb1.f
 have im0 := @Xa7.mono
 have im1 := @deckleref11_form.mono
 exact mz3
set_option maxHeartbeats 8000000 in
set_option maxRecDepth 100000 in
theorem Xb1.calls (k : Nat) (A0 : Option Addr) (c0 : Nat) (l0 : List (S32)) (r1 : List (S32)) (r2 : Bool) (w : World) (hr0 : Kd.C k32 w A0 l0.length l0) (hc0 : l0.length ≤ c0) (h : Xb1.f k l0 = some (r1, r2)) :
  Calls Tryd.prog 16 #[.slice A0 l0.length c0] w fun e w' => ∃ v0_ : Value, e = .returned (.tuple #[v0_, .bool r2]) ∧ Kd.N k32 32 w' w.heap.size (fun k_ => (w.heap.size ≤ k_)) v0_ r1 ∧ Below w.heap.size w w' := by
 have HR0 := zq hr0
 have HC0 := zq hc0
 clear hr0 hc0
 have HB := zq (Below.refl w.heap.size w)
 unfold Xb1.f at h
 have H := h
 clear h
 refine yv H ?_; clear H; rintro t196 A2 H
 refine yB H ?_ ?_ <;> clear H <;> rintro rfl H
 ·obtain ⟨rfl, rfl⟩ := yp2 H
  go_enter Tryd.func16, Tryd.ntmps16
  go_wp2_with (first | ((with_reducible refine Xg (f := 26) rfl ?_); refine Xt (some 6) rfl rfl Tryd.func26 J8 rfl #[.slice A0 l0.length c0] rfl J1 ?_; (with_reducible refine (Xa7.calls k _ _ l0 false _ ?side1 ?side2 A2.out).mono ?_); (case side1 => exact zc HR0.out); (case side2 => exact HC0.out); rintro e w7 ⟨rfl, hb⟩; refine ⟨_, rfl, ?_⟩; replace HB := zq (Xd J0 hb); (try clear hb)))
  go_ret2
  exact ⟨_, J2, J100, J0⟩
 refine yv H ?_; clear H; rintro t197 A4 H
 obtain ⟨rfl, rfl⟩ := yp2 H
 go_enter Tryd.func16, Tryd.ntmps16
 go_wp2_with (first | ((with_reducible refine Xg (f := 26) rfl ?_); refine Xt (some 6) rfl rfl Tryd.func26 J8 rfl #[.slice A0 l0.length c0] rfl J1 ?_; (with_reducible refine (Xa7.calls k _ _ l0 true _ ?side1 ?side2 A2.out).mono ?_); (case side1 => exact zc HR0.out); (case side2 => exact HC0.out); rintro e w5 ⟨rfl, hb⟩; refine ⟨_, rfl, ?_⟩; replace HB := zq (Xd J0 hb); (try clear hb)) | ((with_reducible refine Xg (f := 27) rfl ?_); refine Xt (some 10) rfl rfl Tryd.func27 J8 rfl #[.slice A0 l0.length c0] rfl J1 ?_; (with_reducible refine (deckleref11_form.calls k _ _ l0 t197 _ ?side1 ?side2 A4.out).mono ?_); (case side1 => exact zc (Kd.C_below HR0.out HB.out)); (case side2 => exact HC0.out); rintro e w6 ⟨v198, rfl, ho0, hb⟩; refine ⟨_, rfl, ?_⟩; have HO199 := zq (Kd.N_lower (Kd.N_mono (ok' := fun k_ => (w.heap.size ≤ k_)) ho0 (fun k_ hk_ => (Nat.le_trans (Xf J0) hk_))) (Xf J0)); replace HB := zq (Xd J0 hb); (try clear hb); (try clear ho0)))
 go_ret2
 exact ⟨_, J2, by (with_reducible repeat (first | apply Kd.N_alloc | apply Kd.N_drewN | apply Kd.N_drew)); exact HO199.out, J0⟩
def Xaj.f (k : Nat) (a0 : Int) : Option ((List (S32))) := (Xb1.f k (([(⟨2, ([] : List Int), (([a0] : List Int)), ([] : List (S40))⟩ : S32)] : List (S32)))).bind fun bt206 => (some bt206.1)
theorem Xaj.mono : ∀ a0 k, LeO (Xaj.f k a0) (Xaj.f (k + 1) a0) := by
 intro a0 k
 unfold Xaj.f
 have im0 := @Xb1.mono
 exact mz3
set_option maxHeartbeats 8000000 in
set_option maxRecDepth 100000 in
theorem Xaj.calls (k : Nat) (a0 : Int) (r : List (S32)) (w : World) (h : Xaj.f k a0 = some r) :
  Calls Tryd.prog 7 #[.int .i64 a0] w fun e w' => ∃ v0_ : Value, e = .returned (v0_) ∧ Kd.N k32 32 w' w.heap.size (fun k_ => (w.heap.size ≤ k_)) v0_ r ∧ Below w.heap.size w w' := by
 have hu32 := Tryd.underlying32
 have HB := zq (Below.refl w.heap.size w)
 unfold Xaj.f at h
 have H := h
 clear h
 obtain ⟨y200, hy200⟩ : ∃ y_ : List Int, y_ = (([a0] : List Int)) := ⟨_, rfl⟩
 rw (occs := .pos [1]) [← hy200] at H
 have Ny200 := zq hy200
 clear hy200
 obtain ⟨y203, hy203⟩ : ∃ y_ : List (S32), y_ = (([(⟨2, ([] : List Int), y200, ([] : List (S40))⟩ : S32)] : List (S32))) := ⟨_, rfl⟩
 rw (occs := .pos [1]) [← hy203] at H
 have Ny203 := zq hy203
 clear hy203
 replace H := Option.bind_eq_some_iff.mp H
 obtain ⟨⟨t206, t209⟩, A20, H⟩ := H
 replace H : (some t206) = some r := H
 have A2 := zq A20
 clear A20
 obtain rfl := yo H
 go_enter Tryd.func7, Tryd.ntmps7
 go_wp2_with (first | ((with_reducible refine Xk (N := 7) rfl ?_); refine lwR (Kd.int .i64) 3 7 (xs := ([a0] : List Int)) [.int .i64 a0] Ny200 (Reps.one (show Kd.M (Kd.int .i64) _ _ _ a0 [.int .i64 a0] from rfl) (Reps.none _ _)) ?_; intro v201 w3 ho4 hb; have HO202 := zq (Kd.R_lower (Kd.R_newM (M := fun k_ => (w.heap.size ≤ k_)) ho4 (Xf J0) (fun k_ h_ => h_)) (Xf J0)); replace HB := zq (Xd J0 hb); clear hb ho4; obtain ⟨Ao5, co5, eo5⟩ := Kd.R_slice HO202.out; subst eo5) | ((with_reducible refine Xk (N := 9) rfl ?_); refine Kd.N_lit k32 _ 32 ?hg (N' := 9) ?hd (xs := ([(⟨2, ([] : List Int), y200, ([] : List (S40))⟩ : S32)] : List (S32))) (inner := [.int .i64 2, .slice none 0 0, .slice Ao5 y200.length co5, .slice none 0 0]) (ok := (fun k_ => (w.heap.size ≤ k_))) (okp := (fun k_ => (w.heap.size ≤ k_))) ?hr ?hp (fun _ hk => hk) ((show ∀ k_, w3.heap.size ≤ k_ → (fun k_ => (w.heap.size ≤ k_)) k_ from fun k_ hk => (Nat.le_trans (Xf J0) hk)) _ (Nat.le_refl _)) (Below.refl _ _) (Nat.le_refl _) J88 ?_; (case hd => rfl); (case hg => rfl); (case hr => first | (go_simp; done) | (go_simp; rfl)); (case hp => exact (Reps.c4 (show Kd.FK k32 _ _ (⟨2, ([] : List Int), y200, ([] : List (S40))⟩ : S32) [.int .i64 2, .slice none 0 0, .slice Ao5 y200.length co5, .slice none 0 0] from (Xcx _ _ (⟨2, ([] : List Int), y200, ([] : List (S40))⟩ : S32) (Nat.le_refl _) (Kd.F_nil _ _ _) (Kd.R_reads' (Kd.R_mono (ok' := (fun k_ => (w.heap.size ≤ k_))) (HO202.out) (fun k_ hk => hk.1))).2.1 (Kd.R_F (Kd.R_mono (ok' := (fun k_ => (w.heap.size ≤ k_))) (HO202.out) (fun k_ hk => hk.1))) (Nat.le_refl _) (Kd.F_nil _ _ _))) (Reps.none _ _))); intro v204 w6 ho7 hb hg_ hnew_; clear hg_ hnew_; (first | rw [← Ny203.out] at ho7 | (simp only [Int.reduceToNat] at ho7; rw [← Ny203.out] at ho7)); have HO205 := zq (Kd.N_lower ho7 (Xf J0)); replace HB := zq (Xd J0 hb); clear HO202; clear hb ho7; obtain ⟨Ao8, co8, eo8⟩ := Kd.N_slice HO205.out; subst eo8) | ((with_reducible refine Xg (f := 16) rfl ?_); refine Xt (some 10) rfl rfl Tryd.func16 J8 rfl #[.slice Ao8 y203.length co8] rfl J1 ?_; (with_reducible refine (Xb1.calls k _ _ y203 t206 t209 _ ?side1 ?side2 A2.out).mono ?_); (case side1 => exact zc ((Kd.N_reads' HO205.out).2.2)); (case side2 => exact (Kd.N_reads' HO205.out).2.1); rintro e w9 ⟨v207, rfl, ho0, hb⟩; refine ⟨_, rfl, ?_⟩; have HO208 := zq (Kd.N_lower (Kd.N_mono (ok' := fun k_ => (w.heap.size ≤ k_) ∧ some k_ ≠ (.slice Ao8 y203.length co8 : Value).ownBlock) ho0 (fun k_ hk_ => ⟨(Nat.le_trans (Xf J0) hk_), (Kd.fresh' (Kd.N_lt (zn HO205.out)) k_ hk_)⟩)) (Xf J0)); replace HB := zq (Xd J0 hb); (try clear hb); (try clear hk); (try clear ho0)))
 go_ret
 exact ⟨_, J2, by (with_reducible repeat (first | apply Kd.N_alloc | apply Kd.N_drewN | apply Kd.N_drew)); exact Kd.N_mono HO208.out (fun _ hk => hk.1), J0⟩
def Xcm.f  : Option (List ByteArray) := some (([(⟨#[226, 142, 149, 67, 84]⟩ : ByteArray), (⟨#[226, 142, 149, 73, 79]⟩ : ByteArray), (⟨#[226, 142, 149, 76, 88]⟩ : ByteArray), (⟨#[226, 142, 149, 80, 80]⟩ : ByteArray), (⟨#[226, 142, 149, 80, 87]⟩ : ByteArray), (⟨#[226, 142, 149, 82, 76]⟩ : ByteArray)] : List ByteArray))
set_option maxHeartbeats 8000000 in
set_option maxRecDepth 100000 in
theorem Xcm.calls  (r : List ByteArray) (w : World) (h : Xcm.f  = some r) :
  Calls Tryd.prog 8 #[] w fun e w' => ∃ v0_ : Value, e = .returned (v0_) ∧ Kd.R Kd.string 9 w' w.heap.size (fun _ => True) v0_ r ∧ Below w.heap.size w w' := by
 have HB := zq (Below.refl w.heap.size w)
 unfold Xcm.f at h
 have H := h
 clear h
 obtain ⟨y210, hy210⟩ : ∃ y_ : List ByteArray, y_ = (([(⟨#[226, 142, 149, 67, 84]⟩ : ByteArray), (⟨#[226, 142, 149, 73, 79]⟩ : ByteArray), (⟨#[226, 142, 149, 76, 88]⟩ : ByteArray), (⟨#[226, 142, 149, 80, 80]⟩ : ByteArray), (⟨#[226, 142, 149, 80, 87]⟩ : ByteArray), (⟨#[226, 142, 149, 82, 76]⟩ : ByteArray)] : List ByteArray)) := ⟨_, rfl⟩
 rw (occs := .pos [1]) [← hy210] at H
 have Ny210 := zq hy210
 clear hy210
 obtain rfl := yo H
 go_enter Tryd.func8, Tryd.ntmps8
 go_wp2_with (first | ((with_reducible refine Xk (N := 1) rfl ?_); refine Kd.R_lit Kd.string _ 9 ?hg (N := 1) ?hd (xs := ([(⟨#[226, 142, 149, 67, 84]⟩ : ByteArray), (⟨#[226, 142, 149, 73, 79]⟩ : ByteArray), (⟨#[226, 142, 149, 76, 88]⟩ : ByteArray), (⟨#[226, 142, 149, 80, 80]⟩ : ByteArray), (⟨#[226, 142, 149, 80, 87]⟩ : ByteArray), (⟨#[226, 142, 149, 82, 76]⟩ : ByteArray)] : List ByteArray)) (inner := [.string (⟨#[226, 142, 149, 67, 84]⟩ : ByteArray), .string (⟨#[226, 142, 149, 73, 79]⟩ : ByteArray), .string (⟨#[226, 142, 149, 76, 88]⟩ : ByteArray), .string (⟨#[226, 142, 149, 80, 80]⟩ : ByteArray), .string (⟨#[226, 142, 149, 80, 87]⟩ : ByteArray), .string (⟨#[226, 142, 149, 82, 76]⟩ : ByteArray)]) (ok := fun _ => True) (okp := fun _ => True) ?hr ?hp (fun _ hk => hk) trivial (Below.refl _ _) (Nat.le_refl _) J88 ?_; (case hd => rfl); (case hg => rfl); (case hr => first | (go_simp; done) | (go_simp; rfl)); (case hp => exact (Reps.one (show Kd.M Kd.string _ _ _ (⟨#[226, 142, 149, 67, 84]⟩ : ByteArray) [.string (⟨#[226, 142, 149, 67, 84]⟩ : ByteArray)] from rfl) (Reps.one (show Kd.M Kd.string _ _ _ (⟨#[226, 142, 149, 73, 79]⟩ : ByteArray) [.string (⟨#[226, 142, 149, 73, 79]⟩ : ByteArray)] from rfl) (Reps.one (show Kd.M Kd.string _ _ _ (⟨#[226, 142, 149, 76, 88]⟩ : ByteArray) [.string (⟨#[226, 142, 149, 76, 88]⟩ : ByteArray)] from rfl) (Reps.one (show Kd.M Kd.string _ _ _ (⟨#[226, 142, 149, 80, 80]⟩ : ByteArray) [.string (⟨#[226, 142, 149, 80, 80]⟩ : ByteArray)] from rfl) (Reps.one (show Kd.M Kd.string _ _ _ (⟨#[226, 142, 149, 80, 87]⟩ : ByteArray) [.string (⟨#[226, 142, 149, 80, 87]⟩ : ByteArray)] from rfl) (Reps.one (show Kd.M Kd.string _ _ _ (⟨#[226, 142, 149, 82, 76]⟩ : ByteArray) [.string (⟨#[226, 142, 149, 82, 76]⟩ : ByteArray)] from rfl) (Reps.none _ _)))))))); intro v211 w1 ho2 hb hg_ hnew_; clear hg_ hnew_; (first | rw [← Ny210.out] at ho2 | (simp only [Int.reduceToNat] at ho2; rw [← Ny210.out] at ho2)); have HO212 := zq (Kd.R_lower ho2 (Xf J0)); replace HB := zq (Xd J0 hb); clear hb ho2))
 go_ret
 exact ⟨_, J2, by (with_reducible repeat (first | apply Kd.R_alloc | apply Kd.R_drewN | apply Kd.R_drew)); exact HO212.out, J0⟩
end Go.Proofs.YtfjhiiaahbjaiaaDoor.HSystemFirst
