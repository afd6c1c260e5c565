/- Words and walks, shortened by a program: what this claim's functions answer, and that other memory stays. -/
import Derived.Test.YtecdklheppcihaaSTightTellsx0
import Derived.Test.YtecdklheppcihaaSTightTellsx19
import Derived.Test.YtecdklheppcihaaSTightTellsx20
import Derived.Test.YtecdklheppcihaaSTightTellsx21
namespace Go.Proofs.Ytecdklheppcihaa.HTightTells
open Go.RowKit Go.Proofs.YtecdklheppcihaaW.PrintWords Go.Proofs.YtecdklheppcihaaW.PrintWords.Kd Go.Proofs.YtecdklheppcihaaW.PrintLast Go.Proofs.YtecdklheppcihaaW.PrintMore Go.Proofs.YtecdklheppcihaaW.PrintMore.Kd
attribute [local go_sem] Xbp Xbn Xbu Xbt Xbg Xbf Xbo Xbm
set_option linter.unusedVariables false
set_option linter.unusedSimpArgs false
mutual
def deckleref11_form.j0 : Nat → List (List (S30)) → Bool → Int → List Int → List Int → List (S38) → Option ((List (S30)))
 | 0, _, _, _, _, _, _ => none
 | k + 1, x4, x31, x712000, x712001, x712002, x712003 => if x31 = true then ((Xaj.f k x712000 x712001 x712002 x712003).bind fun t718 => ((deckleref11_Numbers.f k x712001 t718).bind fun bt721 => (some (([(⟨bt721.1, bt721.2.1, bt721.2.2.1, bt721.2.2.2.1⟩ : S30)] : List (S30)))))) else ((some (([] : List Int) : List Int)).bind fun y736 => (if y736.length + x712001.length < 17592186044416 then (deckleref11_form.l0 k x4 (([(⟨5, (y736 ++ x712001), ([] : List Int), ([] : List (S38))⟩ : S30)] : List (S30))) ([] : List Int) ([] : List (S38)) 0 x712000 x712001 x712002 x712003) else (none)))
def deckleref11_form.l0 : Nat → List (List (S30)) → List (S30) → List Int → List (S38) → Int → Int → List Int → List Int → List (S38) → Option ((List (S30)))
 | 0, _, _, _, _, _, _, _, _, _ => none
 | k + 1, x4, x7, x8, x9, x10, x712000, x712001, x712002, x712003 => if x10 < (x4.length : Int) then (if 0 ≤ x10 then ((deckleref11_form.f k (Xa5 x4 x10)).bind fun t746 => (if x7.length + t746.length < 1759218604441 then ((some (x7 ++ t746 : List (S30))).bind fun y749 => (if 0 < (t746.length : Int) then (if (((Xa t746 0).f1).length : Int) = 0 then (deckleref11_form.j2 k x4 y749 x8 x9 x10 t746 (((Xa t746 0).f0) == 3) x712000 x712001 x712002 x712003) else (deckleref11_form.j2 k x4 y749 x8 x9 x10 t746 false x712000 x712001 x712002 x712003)) else (none))) else (none))) else (none)) else (if (x8.length : Int) = (x4.length : Int) then ((some (([] : List Int) : List Int)).bind fun y778 => (if y778.length + x712001.length < 17592186044416 then (some (([(⟨3, (y778 ++ x712001), x8, ([] : List (S38))⟩ : S30)] : List (S30)))) else (none))) else (if (x9.length : Int) = (x4.length : Int) then ((deckleref11_Numbers.f k x712001 x9).bind fun bt787 => (some (([(⟨bt787.1, bt787.2.1, bt787.2.2.1, bt787.2.2.2.1⟩ : S30)] : List (S30))))) else (some x7)))
def deckleref11_form.j2 : Nat → List (List (S30)) → List (S30) → List Int → List (S38) → Int → List (S30) → Bool → Int → List Int → List Int → List (S38) → Option ((List (S30)))
 | 0, _, _, _, _, _, _, _, _, _, _, _ => none
 | k + 1, x4, x7, x8, x9, x10, x11, x74, x712000, x712001, x712002, x712003 => if x74 = true then (if 0 < (x11.length : Int) then (if x8.length + ((Xa x11 0).f2).length < 17592186044416 then ((some (x8 ++ ((Xa x11 0).f2) : List Int)).bind fun y755 => (if (((Xa x11 0).f1).length : Int) = 0 then (if ((Xa x11 0).f0) = 3 then (deckleref11_form.l0 k x4 x7 y755 x9 (wrap64 (x10 + 1)) x712000 x712001 x712002 x712003) else (if ((Xa x11 0).f0) = 5 then (deckleref11_form.l0 k x4 x7 y755 x9 (wrap64 (x10 + 1)) x712000 x712001 x712002 x712003) else ((Xaj.f k ((Xa x11 0).f0) ((Xa x11 0).f1) ((Xa x11 0).f2) ((Xa x11 0).f3)).bind fun t762 => (if x9.length + t762.length < 8796093022208 then (deckleref11_form.l0 k x4 x7 y755 (x9 ++ t762) (wrap64 (x10 + 1)) x712000 x712001 x712002 x712003) else (none))))) else (deckleref11_form.l0 k x4 x7 y755 x9 (wrap64 (x10 + 1)) x712000 x712001 x712002 x712003))) else (none)) else (none)) else (if 0 < (x11.length : Int) then (if (((Xa x11 0).f1).length : Int) = 0 then (if ((Xa x11 0).f0) = 3 then (deckleref11_form.l0 k x4 x7 x8 x9 (wrap64 (x10 + 1)) x712000 x712001 x712002 x712003) else (if ((Xa x11 0).f0) = 5 then (deckleref11_form.l0 k x4 x7 x8 x9 (wrap64 (x10 + 1)) x712000 x712001 x712002 x712003) else ((Xaj.f k ((Xa x11 0).f0) ((Xa x11 0).f1) ((Xa x11 0).f2) ((Xa x11 0).f3)).bind fun t772 => (if x9.length + t772.length < 8796093022208 then (deckleref11_form.l0 k x4 x7 x8 (x9 ++ t772) (wrap64 (x10 + 1)) x712000 x712001 x712002 x712003) else (none))))) else (deckleref11_form.l0 k x4 x7 x8 x9 (wrap64 (x10 + 1)) x712000 x712001 x712002 x712003)) else (none))
def deckleref11_form.f : Nat → List (S30) → Option ((List (S30)))
 | 0, _ => none
 | k + 1, l0 => if 0 < (l0.length : Int) then (if ((Xa l0 0).f0) = 3 then ((deckleref10_Copy.f k l0).bind fun t712 => (some t712)) else ((Xac.f k l0).bind fun t715 => (if ((Xa l0 0).f0) = 5 then (deckleref11_form.j0 k t715 ((t715.length : Int) == 0) ((Xa l0 0).f0) ((Xa l0 0).f1) ((Xa l0 0).f2) ((Xa l0 0).f3)) else (deckleref11_form.j0 k t715 true ((Xa l0 0).f0) ((Xa l0 0).f1) ((Xa l0 0).f2) ((Xa l0 0).f3))))) else (none)
end
def deckleref11_form.T6 : Bool × List (List Nat × List Nat) := (true, [([], []), ([0], [0]), ([], []), ([2], [2]), ([1, 3, 3], [1, 3]), ([4], [4]), ([5], [5]), ([5], [5]), ([], []), ([8, 6, 4, 0, 1, 2, 3, 4, 5, 6, 8], [6, 8]), ([7, 9, 0, 1, 2, 3, 4, 5, 6, 7, 8, 9], [7])])
def deckleref11_form.B6 : List Nat := [0, 1, 0, 4, 15, 31, 63, 63, 0, 383, 1023]
theorem deckleref11_form.tab6 : Xch .any (opsOf Try.f29 6) = deckleref11_form.T6 := J17
theorem deckleref11_form.bits6 : Xcf deckleref11_form.T6.2 deckleref11_form.B6 = true := J17
set_option maxHeartbeats 8000000 in
set_option maxRecDepth 100000 in
theorem deckleref11_form.calls (k : Nat) : ∀ (A0 : Option Addr) (c0 : Nat) (l0 : List (S30)) (r : List (S30)) (w : World) (hr0 : Kd.C k30 w A0 l0.length l0) (hc0 : l0.length ≤ c0) (h : deckleref11_form.f k l0 = some r),
  Calls Try.prog 29 #[.slice A0 l0.length c0] w fun e w' => ∃ v0_ : Value, e = .returned (v0_) ∧ Kd.N k30 30 w' w.heap.size (fun k_ => (w.heap.size ≤ k_)) v0_ r ∧ Below w.heap.size w w' := by
 induction k using Nat.strongRecOn with
 | _ k ih =>
 intro A0 c0 l0 r w hr0 hc0 h
 cases k with
 | zero => exact absurd h (by simp [deckleref11_form.f])
 | succ k =>
 simp only [deckleref11_form.f] at h
 have hu30 := Try.underlying30
 have HR0 := zq hr0
 have HC0 := zq hc0
 clear hr0 hc0
 have HB := zq (Below.refl w.heap.size w)
 have H : (if 0 < (l0.length : Int) then (if ((Xa l0 0).f0) = 3 then ((deckleref10_Copy.f k l0).bind fun t712 => (some t712)) else ((Xac.f k l0).bind fun t715 => (if ((Xa l0 0).f0) = 5 then (deckleref11_form.j0 k t715 ((t715.length : Int) == 0) ((Xa l0 0).f0) ((Xa l0 0).f1) ((Xa l0 0).f2) ((Xa l0 0).f3)) else (deckleref11_form.j0 k t715 true ((Xa l0 0).f0) ((Xa l0 0).f1) ((Xa l0 0).f2) ((Xa l0 0).f3))))) else (none)) = some r := h
 clear h
 refine yi H ?_; clear H; intro c2 H
 have c2b0 := decide_eq_true c2
 have c2b1 : decide (0 < l0.length) = true := decide_eq_true J29
 clear c2
 refine yF H ?_ ?_ <;> clear H <;> rintro ⟨c3b0, c3b1, c3⟩ H
 ·clear c3
  refine yv H ?_; clear H; rintro t712 A4 H
  obtain rfl := yo H
  obtain ⟨ad710, A710_1, c710_1, A710_2, c710_2, A710_3, c710_3, e710, hx710_0, hx710_1, hx710_2, hx710_3, HR710_1, HC710_1, HR710_2, HC710_2, HR710_3, HC710_3, p710, q710, qi710⟩ := rdC0 HR0.out (Below.refl _ _)
  cases e710
  go_enter Try.func29, Try.ntmps29
  go_wp2_with (first | ((with_reducible refine Xj (N := 3) rfl ?_); (try (refine Xw J63 ?_; dsimp only)); refine bxw 3 30 #[.int .i64 0, .slice none 0 0, .slice none 0 0, .slice none 0 0] ?_; intro gb711 hg w5 hbox hb; have BK711 := zq (hbox); have GE711 := zq ((J22 : w.heap.size ≤ gb711)); replace HB := zq (Xe J0 hb); clear hb hbox hg; have Z6 := cz4 BK711.out) | ((with_reducible refine Xi (f := 15) rfl ?_); refine gL 21 Try.func15 #[.slice (some ad710) l0.length c0] (deckleref10_Copy.calls k _ _ l0 t712 _ (ac HR0.out (zs1 GE711.out)) HC0.out A4.out) ?_; rintro e w7 ⟨v713, rfl, ho0, hb⟩; refine ⟨_, rfl, ?_⟩; have HO714 := zq (aH (ap (ok' := fun k_ => (w.heap.size ≤ k_) ∧ k_ ≠ gb711) (Kd.S_N (bm ho0)) (fun k_ hk_ => ⟨(Nat.le_trans (Xc (zs1 GE711.out)) hk_.2.1), (Kd.freshB (g := gb711) (o := .cells #[.int .i64 ((Xa l0 0).f0), .slice A710_1 ((Xa l0 0).f1).length c710_1, .slice A710_2 ((Xa l0 0).f2).length c710_2, .slice A710_3 ((Xa l0 0).f3).length c710_3] 30 (0, 0)) J10 k_ hk_.2.1)⟩)) (Xc (zs1 GE711.out))); replace BK711 := zq (Xg (g := gb711) (o := .cells #[.int .i64 ((Xa l0 0).f0), .slice A710_1 ((Xa l0 0).f1).length c710_1, .slice A710_2 ((Xa l0 0).f2).length c710_2, .slice A710_3 ((Xa l0 0).f3).length c710_3] 30 (0, 0)) J10 hb); replace HB := zq (Xe (zs1 GE711.out) hb); (try clear hb); (try clear hk); (try clear ho0)))
  go_ret
  exact ⟨_, J1, by (with_reducible repeat (first | apply Kd.N_alloc | apply Kd.N_drewN | apply aC)); exact ap HO714.out (fun _ hk => hk.1), J11⟩
 refine yv H ?_; clear H; rintro t715 A8 H
 have HC9 := zq H
 clear H
 obtain ⟨ad710, A710_1, c710_1, A710_2, c710_2, A710_3, c710_3, e710, hx710_0, hx710_1, hx710_2, hx710_3, HR710_1, HC710_1, HR710_2, HC710_2, HR710_3, HC710_3, p710, q710, qi710⟩ := rdC0 HR0.out (Below.refl _ _)
 cases e710
 go_enter Try.func29, Try.ntmps29
 go_upto_region 5 with (first | ((with_reducible refine Xj (N := 3) rfl ?_); (try (refine Xw J63 ?_; dsimp only)); refine bxw 3 30 #[.int .i64 0, .slice none 0 0, .slice none 0 0, .slice none 0 0] ?_; intro gb711 hg w10 hbox hb; have BK711 := zq (hbox); have GE711 := zq ((J22 : w.heap.size ≤ gb711)); replace HB := zq (Xe J0 hb); clear hb hbox hg; have Z11 := cz4 BK711.out) | ((with_reducible refine Xi (f := 53) rfl ?_); refine gL 23 Try.func53 #[.slice (some ad710) l0.length c0] (Xac.calls k _ _ l0 t715 _ (ac HR0.out (zs1 GE711.out)) HC0.out A8.out) ?_; rintro e w12 ⟨v716, rfl, ho0, hb⟩; refine ⟨_, rfl, ?_⟩; have HO717 := zq (aH (ap (ok' := fun k_ => (w.heap.size ≤ k_) ∧ k_ ≠ gb711) (cG (bb ho0)) (fun k_ hk_ => ⟨(Nat.le_trans (Xc (zs1 GE711.out)) hk_.2.1), (Kd.freshB (g := gb711) (o := .cells #[.int .i64 ((Xa l0 0).f0), .slice A710_1 ((Xa l0 0).f1).length c710_1, .slice A710_2 ((Xa l0 0).f2).length c710_2, .slice A710_3 ((Xa l0 0).f3).length c710_3] 30 (0, 0)) J10 k_ hk_.2.1)⟩)) (Xc (zs1 GE711.out))); replace BK711 := zq (Xg (g := gb711) (o := .cells #[.int .i64 ((Xa l0 0).f0), .slice A710_1 ((Xa l0 0).f1).length c710_1, .slice A710_2 ((Xa l0 0).f2).length c710_2, .slice A710_3 ((Xa l0 0).f3).length c710_3] 30 (0, 0)) J10 hb); replace HB := zq (Xe (zs1 GE711.out) hb); (try clear hb); (try clear hk); (try clear ho0)))
 (try simp only [Act.put, List.setIfInBounds_toArray, List.set_cons_zero, List.set_cons_succ])
 go_cut [31] (fun v31 wc => ∃ (kq : Nat) (x31_8 : Bool), v31 = .bool x31_8 ∧ Aside0 (deckleref11_form.j0 kq t715 x31_8 ((Xa l0 0).f0) ((Xa l0 0).f1) ((Xa l0 0).f2) ((Xa l0 0).f3) = some r) ∧ Aside0 (kq ≤ k) ∧ Aside0 (Kd.N (Kd.slice 30 k30) 22 wc w.heap.size (fun k_ => (w.heap.size ≤ k_) ∧ k_ ≠ gb711) v716 t715) ∧ Aside0 (wc.heap[gb711]? = some (.cells #[.int .i64 ((Xa l0 0).f0), (.slice A710_1 ((Xa l0 0).f1).length c710_1), (.slice A710_2 ((Xa l0 0).f2).length c710_2), (.slice A710_3 ((Xa l0 0).f3).length c710_3)] 30 (0, 0))) ∧ Aside0 (Below w.heap.size w wc))
 case first =>
  have H := HC9.out
  clear HC9
  refine yE H ?_ ?_ <;> clear H <;> rintro ⟨c13b0, c13b1, c13⟩ H
  ·(first | rw [c13b0] | (simp only [Xan, Xaq]; rw [c13b0]) | skip)
   have H' := zq H
   clear H
   have Z16 := cz4 BK711.out
   go_wp2
   go_meet
   case rel => exact ⟨_, (true), J4, H', ⟨J32⟩, ⟨J180⟩, ⟨J25⟩, ⟨J11⟩⟩
  clear c13
  (first | rw [c13b0] | (simp only [Xan, Xaq]; rw [c13b0]) | skip)
  have H' := zq H
  clear H
  have Z14 := cz4 BK711.out
  obtain ⟨Ao15, co15, eo15⟩ := aJ HO717.out
  subst eo15
  go_wp2
  go_meet
  case rel => exact ⟨_, (((t715.length : Int) == 0)), J4, H', ⟨J32⟩, ⟨J180⟩, ⟨J25⟩, ⟨J11⟩⟩
 case rest =>
  clear HC9
  try clear c2
  try clear c2b0
  try clear c2b1
  try clear c3
  try clear c3b0
  try clear c3b1
  try clear Z11
  try clear hx710_0
  try clear hx710_1
  try clear hx710_2
  try clear hx710_3
  try clear p710
  try clear q710
  obtain ⟨kq, x31_8, rfl, HA, HJ8, HO_4, BK711, HB⟩ := hcut
  cases kq with
  | zero => exact absurd HA.out (by simp [deckleref11_form.j0])
  | succ kj8 =>
   have H := HA.out
   clear HA
   simp only [deckleref11_form.j0] at H
   refine yC H ?_ ?_ <;> clear H <;> rintro rfl H
   ·refine yv H ?_; clear H; rintro t718 A18 H
    refine yv H ?_; clear H; rintro ⟨t721, t722, t725, t728, t731⟩ A19 H
    dsimp only at H
    refine yS H ?_; clear H; rintro y733 Ny733 H
    obtain rfl := yo H
    try go_wp2
    replace HO_4 := zq (aC HO_4.out)
    replace BK711 := zq (Xf BK711.out)
    replace HB := zq (X9 HB.out)
    refine Xdb (n := 11) (S := fun w' => hdBN w' gb711 (Xa l0 0) A710_1 c710_1 A710_2 c710_2 A710_3 c710_3) (ds := []) #[Z,Z,Z,Z,Z,Z,Z,Z,Z,Z,Z] J17 rfl rfl (Xcp BK711.out) (fun hHeld => ?_); refine Xb9 deckleref11_form.tab6 deckleref11_form.bits6 (fun HT_ HW_ => ?_)
    generalize wc.drew = w20 at HO_4 BK711 HB hHeld ⊢
    refine Xax 0 33 #[Y,Z,Z,Z,Z,Z,Z,Z,Z,Z,Z] HT_ ?_
    refine Xcq (i := 1) (N := some 34) (v := ?_) (a' := ?_) #[Y,Y,Z,Z,Z,Z,Z,Z,Z,Z,Z] rfl rfl (Xbw HT_.out HW_.out J17) (fun _ _ _ h => h) (Or.inl ⟨J63, ?_⟩) hHeld ?_ ?_
    rotate_left
    ·rintro w' ⟨s0, s1, s2, s3⟩
     go_simp
     with_reducible rfl
    rotate_left
    ·exact pz1
    refine Xcq (i := 2) (N := some 35) (v := ?_) (a' := ?_) #[Y,Y,Y,Z,Z,Z,Z,Z,Z,Z,Z] rfl rfl (Xbw HT_.out HW_.out J17) (fun _ _ _ h => h) (Or.inl ⟨J63, ?_⟩) hHeld ?_ ?_
    rotate_left
    ·rintro w' ⟨s0, s1, s2, s3⟩
     go_simp
     with_reducible rfl
    rotate_left
    ·exact pz1
    refine Xc2 (σ := Value × Value × Value × Value × Nat) 2 #[Y,Y,Y,Y,Y,Y,Y,Y,Y,Z,Z] (fun s_ => [(36, s_.1), (37, .tuple #[.agg #[.int .i64 t721, s_.2.1, s_.2.2.1, s_.2.2.2.1], .bool t731]), (5, .pointer (some ⟨s_.2.2.2.2, 0, none⟩)), (32, .tuple #[.agg #[.int .i64 t721, s_.2.1, s_.2.2.1, s_.2.2.2.1], .bool t731]), (38, .agg #[.int .i64 t721, s_.2.1, s_.2.2.1, s_.2.2.2.1]), (39, .bool t731)]) (fun s_ w' => (hdBN w' gb711 (Xa l0 0) A710_1 c710_1 A710_2 c710_2 A710_3 c710_3) ∧ (Kd.R k38 38 w' w.heap.size (fun k_ => (w.heap.size ≤ k_) ∧ some k_ ≠ (s_.2.2.2.1 : Value).ownBlock) s_.1 t718) ∧ (Kd.R (Kd.int .i64) 3 w' w.heap.size (fun k_ => (w.heap.size ≤ k_) ∧ some k_ ≠ (s_.2.2.1 : Value).ownBlock) s_.2.1 t722) ∧ (Kd.R (Kd.int .i64) 3 w' w.heap.size (fun k_ => (w.heap.size ≤ k_) ∧ some k_ ≠ (s_.2.1 : Value).ownBlock) s_.2.2.1 t725) ∧ (Kd.R k38 38 w' w.heap.size (fun k_ => (w.heap.size ≤ k_) ∧ some k_ ≠ (s_.1 : Value).ownBlock) s_.2.2.2.1 t728) ∧ (Kd.N (Kd.slice 30 k30) 22 w' w.heap.size (fun k_ => (w.heap.size ≤ k_) ∧ some k_ ≠ (s_.1 : Value).ownBlock ∧ some k_ ≠ (s_.2.1 : Value).ownBlock ∧ some k_ ≠ (s_.2.2.1 : Value).ownBlock ∧ some k_ ≠ (s_.2.2.2.1 : Value).ownBlock ∧ k_ ≠ gb711 ∧ k_ ≠ s_.2.2.2.2) v716 t715) ∧ (w'.heap[gb711]? = some (.cells #[.int .i64 ((Xa l0 0).f0), .slice A710_1 ((Xa l0 0).f1).length c710_1, .slice A710_2 ((Xa l0 0).f2).length c710_2, .slice A710_3 ((Xa l0 0).f3).length c710_3] 30 (0, 0))) ∧ (w'.heap[s_.2.2.2.2]? = some (.cells #[.int .i64 0, .slice none 0 0, .slice none 0 0, .slice none 0 0] 30 (0, 0))) ∧ (w.heap.size ≤ s_.2.2.2.2) ∧ (w.heap.size ≤ s_.2.2.2.2) ∧ (gb711 ≠ s_.2.2.2.2) ∧ (s_.2.2.2.2 ≠ gb711) ∧ (Below w.heap.size w w')) ?_ ?_
    rotate_left
    ·intro hCont
     refine two_ (i := 3) (j := 8) (Ni := some 36) (Nj := some 5) #[Y,Y,Y,Y,Z,Z,Z,Z,Z,Z,Z] #[Y,Y,Y,Z,Z,Z,Z,Z,Y,Z,Z] rfl rfl rfl rfl (Xda HT_.out J17) J14 J14 (fun K hK => ?_) (fun K hK => ?_)
     ·skip
      refine Xcx Try.func54 J17 rfl #[.agg #[.int .i64 ((Xa l0 0).f0), .slice A710_1 ((Xa l0 0).f1).length c710_1, .slice A710_2 ((Xa l0 0).f2).length c710_2, .slice A710_3 ((Xa l0 0).f3).length c710_3]] J63 rfl rfl J3 ?_
      with_reducible refine (Xaj.calls kj8 ((Xa l0 0).f0) _ _ ((Xa l0 0).f1) _ _ ((Xa l0 0).f2) _ _ ((Xa l0 0).f3) t718 _ ?side1 ?side2 ?side3 ?side4 ?side5 ?side6 A18.out).mono ?_
      (case side1 => exact zc (ac HR710_1.out HB.out))
      (case side2 => exact HC710_1.out)
      (case side3 => exact zc (ac HR710_2.out HB.out))
      (case side4 => exact HC710_2.out)
      (case side5 => exact zc (ac HR710_3.out HB.out))
      (case side6 => exact HC710_3.out)
      rintro e w21 ⟨v719, rfl, ho0, hb⟩
      refine ⟨_, rfl, ?_⟩
      replace HO_4 := zq (ae (zn HO_4.out) (aa ho0) hb)
      have HO720 := zq (ag (aT (M := fun k_ => (w.heap.size ≤ k_)) ho0 (Xc (zs1 GE711.out)) (fun k_ h_ => h_)) (Xc (zs1 GE711.out)))
      replace BK711 := zq (Xg (zk BK711.out) hb)
      replace HB := zq (Xe (zs1 GE711.out) hb)
      (try clear hb)
      (try clear hb2)
      (try clear hk)
      (try clear hi)
      (try clear ho0)
      obtain ⟨Ao22, co22, eo22⟩ := ah HO720.out
      (first | subst eo22 | (injection eo22 with f1_ f2_ f3_; have f4_ := f1_.symm; have f5_ := f3_.symm; clear f1_ f2_ f3_; subst f4_; subst f5_))
      refine hK.out _ _ (Xcp BK711.out) (fun hHeld => ?_)
      clear hK K
      refine Xap (a' := ?_) ?_ ?_
      rotate_left
      ·show Act.put _ (some 36) _ = _
       simp only [Act.put, List.setIfInBounds_toArray, List.set_cons_zero, List.set_cons_succ, Xan, Xaq]
       rfl
      refine two_ (i := 4) (j := 8) (Ni := some 37) (Nj := some 5) #[Y,Y,Y,Y,Y,Z,Z,Z,Z,Z,Z] #[Y,Y,Y,Y,Z,Z,Z,Z,Y,Z,Z] rfl rfl rfl rfl (Xda HT_.out J17) J14 J14 (fun K hK => ?_) (fun K hK => ?_)
      ·skip
       refine Xcx Try.func14 J17 rfl #[.slice A710_1 ((Xa l0 0).f1).length c710_1, .slice Ao22 t718.length co22] J63 rfl rfl J3 ?_
       with_reducible refine (deckleref11_Numbers.calls kj8 _ _ ((Xa l0 0).f1) _ _ t718 t721 t722 t725 t728 t731 _ ?side1 ?side2 ?side3 ?side4 A19.out).mono ?_
       (case side1 => exact zc (ac HR710_1.out HB.out))
       (case side2 => exact HC710_1.out)
       (case side3 => exact zc ((an HO720.out).2.2))
       (case side4 => exact (an HO720.out).2.1)
       rintro e w23 ⟨v723, v726, v729, rfl, ho0, ho1, ho2, hb⟩
       refine ⟨_, rfl, ?_⟩
       replace HO_4 := zq (ap (aw (aw (aw (bf (zn HO_4.out) hb) (aa ho0)) (aa ho1)) (aa ho2)) (fun _ h_ => h_.1))
       have HO724 := zq (ag (aT (M := fun k_ => (w.heap.size ≤ k_)) ho0 (Xc (zs1 GE711.out)) (fun k_ h_ => h_)) (Xc (zs1 GE711.out)))
       have HO727 := zq (ag (aT (M := fun k_ => (w.heap.size ≤ k_)) ho1 (Xc (zs1 GE711.out)) (fun k_ h_ => h_)) (Xc (zs1 GE711.out)))
       have HO730 := zq (ag (aW (aT (M := fun k_ => (w.heap.size ≤ k_)) ho2 (Xc (zs1 GE711.out)) (fun k_ h_ => h_)) (aY (zr HO720.out))) (Xc (zs1 GE711.out)))
       replace HO720 := zq (ay (zr HO720.out) (aa ho2) hb)
       replace BK711 := zq (Xg (zk BK711.out) hb)
       replace HB := zq (Xe (zs1 GE711.out) hb)
       (try clear hb)
       (try clear hb2)
       (try clear hk)
       (try clear hi)
       (try clear ho0)
       (try clear ho1)
       (try clear ho2)
       refine hK.out _ _ (Xcp BK711.out) (fun hHeld => ?_)
       clear hK K
       refine Xap (a' := ?_) ?_ ?_
       rotate_left
       ·show Act.put _ (some 37) _ = _
        simp only [Act.put, List.setIfInBounds_toArray, List.set_cons_zero, List.set_cons_succ, Xan, Xaq]
        rfl
       refine Xax 5 32 #[Y,Y,Y,Y,Y,Y,Z,Z,Z,Z,Z] HT_ ?_
       refine Xax 6 38 #[Y,Y,Y,Y,Y,Y,Y,Z,Z,Z,Z] HT_ ?_
       refine Xax 7 39 #[Y,Y,Y,Y,Y,Y,Y,Y,Z,Z,Z] HT_ ?_
       refine Xcb (i := 8) (N := some 5) #[Y,Y,Y,Y,Y,Y,Y,Y,Y,Z,Z] rfl rfl (Xbl HT_.out J17) J14 (fun K hK => ?_)
       refine Xdk ?hg (N := 5) ?hd (cs := #[.int .i64 0, .slice none 0 0, .slice none 0 0, .slice none 0 0]) (t := 30) ?hr ?_; (case hd => rfl); (case hg => rfl); (case hr => first | (go_simp; done) | (go_simp; rfl))
       intro gb732 hg w24 hbox hb
       replace HO_4 := zq (aD (aU (zn HO_4.out) gb732 (Nat.le_of_eq hg.symm)) hb)
       replace HO720 := zq (ab (zr HO720.out) hb)
       replace HO724 := zq (ab (zr HO724.out) hb)
       replace HO727 := zq (ab (zr HO727.out) hb)
       replace HO730 := zq (ab (zr HO730.out) hb)
       have BK732 := zq (hbox)
       have GW732 := zq ((J110 : w.heap.size ≤ gb732))
       have GE732 := zq ((J110 : w.heap.size ≤ gb732))
       replace HB := zq (Xe (zs1 GE711.out) hb)
       have NB711_732 := zq ((J42 : gb711 ≠ gb732))
       have NB732_711 := zq ((J43 : gb732 ≠ gb711))
       replace BK711 := zq (Xg (zk BK711.out) hb)
       clear hb hbox hg
       refine hK.out _ _ (Xcp BK711.out) (fun hHeld => ?_)
       clear hK K
       refine Xap (a' := ?_) ?_ ?_
       rotate_left
       ·show Act.put _ (some 5) _ = _
        simp only [Act.put, List.setIfInBounds_toArray, List.set_cons_zero, List.set_cons_succ, Xan, Xaq]
        rfl
       exact Xap J74 (hCont (.slice Ao22 t718.length co22, v723, v726, v729, gb732) _ ⟨hHeld, J102, (zr HO724.out), (zr HO727.out), J103, (by (with_reducible repeat (first | apply Kd.N_alloc | apply Kd.N_drewN | apply aC)); exact ap HO_4.out (fun _ hk => ⟨hk.1.1.1.1.1.1, ⟨hk.1.1.1.1.2, ⟨hk.1.1.1.2, ⟨hk.1.1.2, ⟨hk.1.2, ⟨hk.1.1.1.1.1.2, hk.2⟩⟩⟩⟩⟩⟩)), (zk BK711.out), (zk BK732.out), GW732.out, GE732.out, NB711_732.out, NB732_711.out, (zs2 GE711.out GE732.out)⟩)
      ·skip
       refine Xdk ?hg (N := 5) ?hd (cs := #[.int .i64 0, .slice none 0 0, .slice none 0 0, .slice none 0 0]) (t := 30) ?hr ?_; (case hd => rfl); (case hg => rfl); (case hr => first | (go_simp; done) | (go_simp; rfl))
       intro gb732 hg w22 hbox hb
       replace HO_4 := zq (aD (aU (zn HO_4.out) gb732 (Nat.le_of_eq hg.symm)) hb)
       replace HO720 := zq (ab (zr HO720.out) hb)
       have BK732 := zq (hbox)
       have GW732 := zq ((J110 : w.heap.size ≤ gb732))
       have GE732 := zq ((J110 : w.heap.size ≤ gb732))
       replace HB := zq (Xe (zs1 GE711.out) hb)
       have NB711_732 := zq ((J42 : gb711 ≠ gb732))
       have NB732_711 := zq ((J43 : gb732 ≠ gb711))
       replace BK711 := zq (Xg (zk BK711.out) hb)
       clear hb hbox hg
       obtain ⟨Ao23, co23, eo23⟩ := ah HO720.out
       (first | subst eo23 | (injection eo23 with f1_ f2_ f3_; have f4_ := f1_.symm; have f5_ := f3_.symm; clear f1_ f2_ f3_; subst f4_; subst f5_))
       refine hK.out _ _ (Xcp BK711.out) (fun hHeld => ?_)
       clear hK K
       refine Xap (a' := ?_) ?_ ?_
       rotate_left
       ·show Act.put _ (some 5) _ = _
        simp only [Act.put, List.setIfInBounds_toArray, List.set_cons_zero, List.set_cons_succ, Xan, Xaq]
        rfl
       refine Xcb (i := 4) (N := some 37) #[Y,Y,Y,Y,Y,Z,Z,Z,Y,Z,Z] rfl rfl (Xbl HT_.out J17) J14 (fun K hK => ?_)
       refine Xcx Try.func14 J17 rfl #[.slice A710_1 ((Xa l0 0).f1).length c710_1, .slice Ao23 t718.length co23] J63 rfl rfl J3 ?_
       with_reducible refine (deckleref11_Numbers.calls kj8 _ _ ((Xa l0 0).f1) _ _ t718 t721 t722 t725 t728 t731 _ ?side1 ?side2 ?side3 ?side4 A19.out).mono ?_
       (case side1 => exact zc (ac HR710_1.out HB.out))
       (case side2 => exact HC710_1.out)
       (case side3 => exact zc ((an HO720.out).2.2))
       (case side4 => exact (an HO720.out).2.1)
       rintro e w24 ⟨v723, v726, v729, rfl, ho0, ho1, ho2, hb⟩
       refine ⟨_, rfl, ?_⟩
       replace HO_4 := zq (ap (aw (aw (aw (bf (zn HO_4.out) hb) (aa ho0)) (aa ho1)) (aa ho2)) (fun _ h_ => h_.1))
       have HO724 := zq (ag (aT (M := fun k_ => (w.heap.size ≤ k_)) ho0 (Xc (zs2 GE711.out GE732.out)) (fun k_ h_ => h_)) (Xc (zs2 GE711.out GE732.out)))
       have HO727 := zq (ag (aT (M := fun k_ => (w.heap.size ≤ k_)) ho1 (Xc (zs2 GE711.out GE732.out)) (fun k_ h_ => h_)) (Xc (zs2 GE711.out GE732.out)))
       have HO730 := zq (ag (aW (aT (M := fun k_ => (w.heap.size ≤ k_)) ho2 (Xc (zs2 GE711.out GE732.out)) (fun k_ h_ => h_)) (aY (zr HO720.out))) (Xc (zs2 GE711.out GE732.out)))
       replace HO720 := zq (ay (zr HO720.out) (aa ho2) hb)
       replace BK711 := zq (Xg (zk BK711.out) hb)
       replace BK732 := zq (Xg (zk BK732.out) hb)
       replace HB := zq (Xe (zs2 GE711.out GE732.out) hb)
       (try clear hb)
       (try clear hb2)
       (try clear hk)
       (try clear hi)
       (try clear ho0)
       (try clear ho1)
       (try clear ho2)
       refine hK.out _ _ (Xcp BK711.out) (fun hHeld => ?_)
       clear hK K
       refine Xap (a' := ?_) ?_ ?_
       rotate_left
       ·show Act.put _ (some 37) _ = _
        simp only [Act.put, List.setIfInBounds_toArray, List.set_cons_zero, List.set_cons_succ, Xan, Xaq]
        rfl
       refine Xax 5 32 #[Y,Y,Y,Y,Y,Y,Z,Z,Y,Z,Z] HT_ ?_
       refine Xax 6 38 #[Y,Y,Y,Y,Y,Y,Y,Z,Y,Z,Z] HT_ ?_
       refine Xax 7 39 #[Y,Y,Y,Y,Y,Y,Y,Y,Y,Z,Z] HT_ ?_
       exact Xap J74 (hCont (.slice Ao23 t718.length co23, v723, v726, v729, gb732) _ ⟨hHeld, J102, (zr HO724.out), (zr HO727.out), J103, (by (with_reducible repeat (first | apply Kd.N_alloc | apply Kd.N_drewN | apply aC)); exact ap HO_4.out (fun _ hk => ⟨hk.1.1.1.1.1.1, ⟨hk.1.1.1.1.2, ⟨hk.1.1.2, ⟨hk.1.2, ⟨hk.2, ⟨hk.1.1.1.1.1.2, hk.1.1.1.2⟩⟩⟩⟩⟩⟩)), (zk BK711.out), (zk BK732.out), GW732.out, GE732.out, NB711_732.out, NB732_711.out, (zs2 GE711.out GE732.out)⟩)
     ·skip
      refine Xdk ?hg (N := 5) ?hd (cs := #[.int .i64 0, .slice none 0 0, .slice none 0 0, .slice none 0 0]) (t := 30) ?hr ?_; (case hd => rfl); (case hg => rfl); (case hr => first | (go_simp; done) | (go_simp; rfl))
      intro gb732 hg w21 hbox hb
      replace HO_4 := zq (aD (aU (zn HO_4.out) gb732 (Nat.le_of_eq hg.symm)) hb)
      have BK732 := zq (hbox)
      have GW732 := zq ((J110 : w.heap.size ≤ gb732))
      have GE732 := zq ((J110 : w.heap.size ≤ gb732))
      replace HB := zq (Xe (zs1 GE711.out) hb)
      have NB711_732 := zq ((J42 : gb711 ≠ gb732))
      have NB732_711 := zq ((J43 : gb732 ≠ gb711))
      replace BK711 := zq (Xg (zk BK711.out) hb)
      clear hb hbox hg
      refine hK.out _ _ (Xcp BK711.out) (fun hHeld => ?_)
      clear hK K
      refine Xap (a' := ?_) ?_ ?_
      rotate_left
      ·show Act.put _ (some 5) _ = _
       simp only [Act.put, List.setIfInBounds_toArray, List.set_cons_zero, List.set_cons_succ, Xan, Xaq]
       rfl
      refine Xcb (i := 3) (N := some 36) #[Y,Y,Y,Y,Z,Z,Z,Z,Y,Z,Z] rfl rfl (Xbl HT_.out J17) J14 (fun K hK => ?_)
      refine Xcx Try.func54 J17 rfl #[.agg #[.int .i64 ((Xa l0 0).f0), .slice A710_1 ((Xa l0 0).f1).length c710_1, .slice A710_2 ((Xa l0 0).f2).length c710_2, .slice A710_3 ((Xa l0 0).f3).length c710_3]] J63 rfl rfl J3 ?_
      with_reducible refine (Xaj.calls kj8 ((Xa l0 0).f0) _ _ ((Xa l0 0).f1) _ _ ((Xa l0 0).f2) _ _ ((Xa l0 0).f3) t718 _ ?side1 ?side2 ?side3 ?side4 ?side5 ?side6 A18.out).mono ?_
      (case side1 => exact zc (ac HR710_1.out HB.out))
      (case side2 => exact HC710_1.out)
      (case side3 => exact zc (ac HR710_2.out HB.out))
      (case side4 => exact HC710_2.out)
      (case side5 => exact zc (ac HR710_3.out HB.out))
      (case side6 => exact HC710_3.out)
      rintro e w22 ⟨v719, rfl, ho0, hb⟩
      refine ⟨_, rfl, ?_⟩
      replace HO_4 := zq (ae (zn HO_4.out) (aa ho0) hb)
      have HO720 := zq (ag (aT (M := fun k_ => (w.heap.size ≤ k_)) ho0 (Xc (zs2 GE711.out GE732.out)) (fun k_ h_ => h_)) (Xc (zs2 GE711.out GE732.out)))
      replace BK711 := zq (Xg (zk BK711.out) hb)
      replace BK732 := zq (Xg (zk BK732.out) hb)
      replace HB := zq (Xe (zs2 GE711.out GE732.out) hb)
      (try clear hb)
      (try clear hb2)
      (try clear hk)
      (try clear hi)
      (try clear ho0)
      obtain ⟨Ao23, co23, eo23⟩ := ah HO720.out
      (first | subst eo23 | (injection eo23 with f1_ f2_ f3_; have f4_ := f1_.symm; have f5_ := f3_.symm; clear f1_ f2_ f3_; subst f4_; subst f5_))
      refine hK.out _ _ (Xcp BK711.out) (fun hHeld => ?_)
      clear hK K
      refine Xap (a' := ?_) ?_ ?_
      rotate_left
      ·show Act.put _ (some 36) _ = _
       simp only [Act.put, List.setIfInBounds_toArray, List.set_cons_zero, List.set_cons_succ, Xan, Xaq]
       rfl
      refine Xcb (i := 4) (N := some 37) #[Y,Y,Y,Y,Y,Z,Z,Z,Y,Z,Z] rfl rfl (Xbl HT_.out J17) J14 (fun K hK => ?_)
      refine Xcx Try.func14 J17 rfl #[.slice A710_1 ((Xa l0 0).f1).length c710_1, .slice Ao23 t718.length co23] J63 rfl rfl J3 ?_
      with_reducible refine (deckleref11_Numbers.calls kj8 _ _ ((Xa l0 0).f1) _ _ t718 t721 t722 t725 t728 t731 _ ?side1 ?side2 ?side3 ?side4 A19.out).mono ?_
      (case side1 => exact zc (ac HR710_1.out HB.out))
      (case side2 => exact HC710_1.out)
      (case side3 => exact zc ((an HO720.out).2.2))
      (case side4 => exact (an HO720.out).2.1)
      rintro e w24 ⟨v723, v726, v729, rfl, ho0, ho1, ho2, hb⟩
      refine ⟨_, rfl, ?_⟩
      replace HO_4 := zq (ap (aw (aw (aw (bf (zn HO_4.out) hb) (aa ho0)) (aa ho1)) (aa ho2)) (fun _ h_ => h_.1))
      have HO724 := zq (ag (aT (M := fun k_ => (w.heap.size ≤ k_)) ho0 (Xc (zs2 GE711.out GE732.out)) (fun k_ h_ => h_)) (Xc (zs2 GE711.out GE732.out)))
      have HO727 := zq (ag (aT (M := fun k_ => (w.heap.size ≤ k_)) ho1 (Xc (zs2 GE711.out GE732.out)) (fun k_ h_ => h_)) (Xc (zs2 GE711.out GE732.out)))
      have HO730 := zq (ag (aW (aT (M := fun k_ => (w.heap.size ≤ k_)) ho2 (Xc (zs2 GE711.out GE732.out)) (fun k_ h_ => h_)) (aY (zr HO720.out))) (Xc (zs2 GE711.out GE732.out)))
      replace HO720 := zq (ay (zr HO720.out) (aa ho2) hb)
      replace BK711 := zq (Xg (zk BK711.out) hb)
      replace BK732 := zq (Xg (zk BK732.out) hb)
      replace HB := zq (Xe (zs2 GE711.out GE732.out) hb)
      (try clear hb)
      (try clear hb2)
      (try clear hk)
      (try clear hi)
      (try clear ho0)
      (try clear ho1)
      (try clear ho2)
      refine hK.out _ _ (Xcp BK711.out) (fun hHeld => ?_)
      clear hK K
      refine Xap (a' := ?_) ?_ ?_
      rotate_left
      ·show Act.put _ (some 37) _ = _
       simp only [Act.put, List.setIfInBounds_toArray, List.set_cons_zero, List.set_cons_succ, Xan, Xaq]
       rfl
      refine Xax 5 32 #[Y,Y,Y,Y,Y,Y,Z,Z,Y,Z,Z] HT_ ?_
      refine Xax 6 38 #[Y,Y,Y,Y,Y,Y,Y,Z,Y,Z,Z] HT_ ?_
      refine Xax 7 39 #[Y,Y,Y,Y,Y,Y,Y,Y,Y,Z,Z] HT_ ?_
      exact Xap J74 (hCont (.slice Ao23 t718.length co23, v723, v726, v729, gb732) _ ⟨hHeld, J102, (zr HO724.out), (zr HO727.out), J103, (by (with_reducible repeat (first | apply Kd.N_alloc | apply Kd.N_drewN | apply aC)); exact ap HO_4.out (fun _ hk => ⟨hk.1.1.1.1.1.1, ⟨hk.1.1.1.2, ⟨hk.1.1.2, ⟨hk.1.2, ⟨hk.2, ⟨hk.1.1.1.1.1.2, hk.1.1.1.1.2⟩⟩⟩⟩⟩⟩)), (zk BK711.out), (zk BK732.out), GW732.out, GE732.out, NB711_732.out, NB732_711.out, (zs2 GE711.out GE732.out)⟩)
    clear HO_4 BK711 HB
    rintro ⟨v719, v723, v726, v729, gb732⟩ w25 ⟨hHeld, HO720, HO724, HO727, HO730, HO_4, BK711, BK732, GW732, GE732, NB711_732, NB732_711, HB⟩
    try dsimp only at hHeld HO720 HO724 HO727 HO730 HO_4 BK711 BK732 GW732 GE732 NB711_732 NB732_711 HB
    replace HO720 := zq HO720
    replace HO724 := zq HO724
    replace HO727 := zq HO727
    replace HO730 := zq HO730
    replace HO_4 := zq HO_4
    replace BK711 := zq BK711
    replace BK732 := zq BK732
    replace GW732 := zq GW732
    replace GE732 := zq GE732
    replace NB711_732 := zq NB711_732
    replace NB732_711 := zq NB732_711
    replace HB := zq HB
    obtain ⟨Ao27, co27, eo27⟩ := ah HO724.out
    (first | subst eo27 | (injection eo27 with f1_ f2_ f3_; have f4_ := f1_.symm; have f5_ := f3_.symm; clear f1_ f2_ f3_; subst f4_; subst f5_))
    obtain ⟨Ao29, co29, eo29⟩ := ah HO727.out
    (first | subst eo29 | (injection eo29 with f1_ f2_ f3_; have f4_ := f1_.symm; have f5_ := f3_.symm; clear f1_ f2_ f3_; subst f4_; subst f5_))
    obtain ⟨Ao31, co31, eo31⟩ := ah HO730.out
    (first | subst eo31 | (injection eo31 with f1_ f2_ f3_; have f4_ := f1_.symm; have f5_ := f3_.symm; clear f1_ f2_ f3_; subst f4_; subst f5_))
    refine Xap (a' := ?_) ?_ ?_
    rotate_left
    ·simp only [Xb6, Act.put, List.setIfInBounds_toArray, List.set_cons_zero, List.set_cons_succ]
     rfl
    refine Xcb (i := 9) (N := none) #[Y,Y,Y,Y,Y,Y,Y,Y,Y,Y,Z] rfl rfl (Xbl HT_.out J17) J14 (fun K hK => ?_)
    have hs26 : w25.cell? ⟨gb732, 0, none⟩ = some (.int .i64 0) := (Xx BK732.out 0).trans rfl
    have hfs26 := Xa3 BK732.out 0
    have hns26_0 := NB711_732.out
    have hms26_0 := NB732_711.out
    have hs28 : w25.cell? ⟨gb732, 1, none⟩ = some (.slice none 0 0) := (Xx BK732.out 1).trans rfl
    have hfs28 := Xa3 BK732.out 1
    have hns28_0 := NB711_732.out
    have hms28_0 := NB732_711.out
    have hs30 : w25.cell? ⟨gb732, 2, none⟩ = some (.slice none 0 0) := (Xx BK732.out 2).trans rfl
    have hfs30 := Xa3 BK732.out 2
    have hns30_0 := NB711_732.out
    have hms30_0 := NB732_711.out
    have hs32 : w25.cell? ⟨gb732, 3, none⟩ = some (.slice none 0 0) := (Xx BK732.out 3).trans rfl
    have hfs32 := Xa3 BK732.out 3
    have hns32_0 := NB711_732.out
    have hms32_0 := NB732_711.out
    refine skip_ (w1 := ?_) J63 rfl ?_ ?_
    rotate_left
    ·go_simp
     rfl
    refine hK.out _ _ ⟨((Xai (p := ⟨gb732, _, none⟩) NB711_732.out _).trans (((Xai (p := ⟨gb732, _, none⟩) NB711_732.out _).trans (((Xai (p := ⟨gb732, _, none⟩) NB711_732.out _).trans (((Xai (p := ⟨gb732, _, none⟩) NB711_732.out _).trans (hHeld.1)))))))), ((Xai (p := ⟨gb732, _, none⟩) NB711_732.out _).trans (((Xai (p := ⟨gb732, _, none⟩) NB711_732.out _).trans (((Xai (p := ⟨gb732, _, none⟩) NB711_732.out _).trans (((Xai (p := ⟨gb732, _, none⟩) NB711_732.out _).trans (hHeld.2.1)))))))), ((Xai (p := ⟨gb732, _, none⟩) NB711_732.out _).trans (((Xai (p := ⟨gb732, _, none⟩) NB711_732.out _).trans (((Xai (p := ⟨gb732, _, none⟩) NB711_732.out _).trans (((Xai (p := ⟨gb732, _, none⟩) NB711_732.out _).trans (hHeld.2.2.1)))))))), ((Xai (p := ⟨gb732, _, none⟩) NB711_732.out _).trans (((Xai (p := ⟨gb732, _, none⟩) NB711_732.out _).trans (((Xai (p := ⟨gb732, _, none⟩) NB711_732.out _).trans (((Xai (p := ⟨gb732, _, none⟩) NB711_732.out _).trans (hHeld.2.2.2))))))))⟩ (fun hHeld => ?_)
    clear hK K
    refine Xax 10 6 #[Y,Y,Y,Y,Y,Y,Y,Y,Y,Y,Y] HT_ ?_
    refine Xd3 (Xcw HT_.out J17) ?_
    have n0_ : Aside0 (Kd.N (Kd.slice 30 k30) 22 ((((w25.setCell ⟨gb732, 0, none⟩ (.int .i64 t721)).setCell ⟨gb732, 1, none⟩ (.slice Ao27 t722.length co27)).setCell ⟨gb732, 2, none⟩ (.slice Ao29 t725.length co29)).setCell ⟨gb732, 3, none⟩ (.slice Ao31 t728.length co31)) w.heap.size (fun k_ => (w.heap.size ≤ k_) ∧ some k_ ≠ (v719 : Value).ownBlock ∧ some k_ ≠ (.slice Ao27 t722.length co27 : Value).ownBlock ∧ some k_ ≠ (.slice Ao29 t725.length co29 : Value).ownBlock ∧ some k_ ≠ (.slice Ao31 t728.length co31 : Value).ownBlock ∧ k_ ≠ gb711 ∧ k_ ≠ gb732) v716 t715) := ⟨by (with_reducible repeat (first | apply Kd.N_alloc | apply Kd.N_drewN | apply aC)); exact ap (fN4 (ap HO_4.out (fun k_ hk => (⟨hk, hk.2.2.2.2.2.2⟩ : _ ∧ k_ ≠ gb732)))) (fun _ hk => ⟨hk.1.1, ⟨hk.1.2.1, ⟨hk.1.2.2.1, ⟨hk.1.2.2.2.1, ⟨hk.1.2.2.2.2.1, ⟨hk.1.2.2.2.2.2.1, hk.1.2.2.2.2.2.2⟩⟩⟩⟩⟩⟩)⟩
    have n1_ : Aside0 (Kd.R k38 38 ((((w25.setCell ⟨gb732, 0, none⟩ (.int .i64 t721)).setCell ⟨gb732, 1, none⟩ (.slice Ao27 t722.length co27)).setCell ⟨gb732, 2, none⟩ (.slice Ao29 t725.length co29)).setCell ⟨gb732, 3, none⟩ (.slice Ao31 t728.length co31)) w.heap.size (fun k_ => (w.heap.size ≤ k_) ∧ some k_ ≠ (.slice Ao31 t728.length co31 : Value).ownBlock) v719 t718) := ⟨by (with_reducible repeat (first | apply Kd.R_alloc | apply ai | apply ak)); exact af (fR4 (al HO720.out BK732.out J14)) (fun _ hk => ⟨hk.1.1, hk.1.2⟩)⟩
    have n2_ : Aside0 (Kd.R (Kd.int .i64) 3 ((((w25.setCell ⟨gb732, 0, none⟩ (.int .i64 t721)).setCell ⟨gb732, 1, none⟩ (.slice Ao27 t722.length co27)).setCell ⟨gb732, 2, none⟩ (.slice Ao29 t725.length co29)).setCell ⟨gb732, 3, none⟩ (.slice Ao31 t728.length co31)) w.heap.size (fun k_ => (w.heap.size ≤ k_) ∧ some k_ ≠ (.slice Ao29 t725.length co29 : Value).ownBlock) (.slice Ao27 t722.length co27) t722) := ⟨by (with_reducible repeat (first | apply Kd.R_alloc | apply ai | apply ak)); exact af (fR4 (al HO724.out BK732.out J14)) (fun _ hk => ⟨hk.1.1, hk.1.2⟩)⟩
    have n3_ : Aside0 (Kd.R (Kd.int .i64) 3 ((((w25.setCell ⟨gb732, 0, none⟩ (.int .i64 t721)).setCell ⟨gb732, 1, none⟩ (.slice Ao27 t722.length co27)).setCell ⟨gb732, 2, none⟩ (.slice Ao29 t725.length co29)).setCell ⟨gb732, 3, none⟩ (.slice Ao31 t728.length co31)) w.heap.size (fun k_ => (w.heap.size ≤ k_) ∧ some k_ ≠ (.slice Ao27 t722.length co27 : Value).ownBlock) (.slice Ao29 t725.length co29) t725) := ⟨by (with_reducible repeat (first | apply Kd.R_alloc | apply ai | apply ak)); exact af (fR4 (al HO727.out BK732.out J14)) (fun _ hk => ⟨hk.1.1, hk.1.2⟩)⟩
    have n4_ : Aside0 (Kd.R k38 38 ((((w25.setCell ⟨gb732, 0, none⟩ (.int .i64 t721)).setCell ⟨gb732, 1, none⟩ (.slice Ao27 t722.length co27)).setCell ⟨gb732, 2, none⟩ (.slice Ao29 t725.length co29)).setCell ⟨gb732, 3, none⟩ (.slice Ao31 t728.length co31)) w.heap.size (fun k_ => (w.heap.size ≤ k_) ∧ some k_ ≠ (v719 : Value).ownBlock) (.slice Ao31 t728.length co31) t728) := ⟨by (with_reducible repeat (first | apply Kd.R_alloc | apply ai | apply ak)); exact af (fR4 (al HO730.out BK732.out J14)) (fun _ hk => ⟨hk.1.1, hk.1.2⟩)⟩
    have n5_ : Aside0 (((((w25.setCell ⟨gb732, 0, none⟩ (.int .i64 t721)).setCell ⟨gb732, 1, none⟩ (.slice Ao27 t722.length co27)).setCell ⟨gb732, 2, none⟩ (.slice Ao29 t725.length co29)).setCell ⟨gb732, 3, none⟩ (.slice Ao31 t728.length co31)).heap[gb711]? = some (.cells #[.int .i64 ((Xa l0 0).f0), .slice A710_1 ((Xa l0 0).f1).length c710_1, .slice A710_2 ((Xa l0 0).f2).length c710_2, .slice A710_3 ((Xa l0 0).f3).length c710_3] 30 (0, 0))) := ⟨by (with_reducible repeat (first | refine Xd ?_ _ | refine Xf ?_ | refine Xb ?_ _)); refine Xab ?_ NB711_732.out _; (with_reducible repeat (first | refine Xd ?_ _ | refine Xf ?_ | refine Xb ?_ _)); refine Xab ?_ NB711_732.out _; (with_reducible repeat (first | refine Xd ?_ _ | refine Xf ?_ | refine Xb ?_ _)); refine Xab ?_ NB711_732.out _; (with_reducible repeat (first | refine Xd ?_ _ | refine Xf ?_ | refine Xb ?_ _)); refine Xab ?_ NB711_732.out _; (with_reducible repeat (first | refine Xd ?_ _ | refine Xf ?_ | refine Xb ?_ _)); exact BK711.out⟩
    have n6_ : Aside0 (((((w25.setCell ⟨gb732, 0, none⟩ (.int .i64 t721)).setCell ⟨gb732, 1, none⟩ (.slice Ao27 t722.length co27)).setCell ⟨gb732, 2, none⟩ (.slice Ao29 t725.length co29)).setCell ⟨gb732, 3, none⟩ (.slice Ao31 t728.length co31)).heap[gb732]? = some (.cells #[.int .i64 t721, .slice Ao27 t722.length co27, .slice Ao29 t725.length co29, .slice Ao31 t728.length co31] 30 (0, 0))) := ⟨by (with_reducible repeat (first | refine Xd ?_ _ | refine Xf ?_ | refine Xb ?_ _)); refine Xk (cs := #[.int .i64 t721, .slice Ao27 t722.length co27, .slice Ao29 t725.length co29, .slice none 0 0]) ?_ 3 _ rfl; (with_reducible repeat (first | refine Xd ?_ _ | refine Xf ?_ | refine Xb ?_ _)); refine Xk (cs := #[.int .i64 t721, .slice Ao27 t722.length co27, .slice none 0 0, .slice none 0 0]) ?_ 2 _ rfl; (with_reducible repeat (first | refine Xd ?_ _ | refine Xf ?_ | refine Xb ?_ _)); refine Xk (cs := #[.int .i64 t721, .slice none 0 0, .slice none 0 0, .slice none 0 0]) ?_ 1 _ rfl; (with_reducible repeat (first | refine Xd ?_ _ | refine Xf ?_ | refine Xb ?_ _)); refine Xk (cs := #[.int .i64 0, .slice none 0 0, .slice none 0 0, .slice none 0 0]) ?_ 0 _ rfl; (with_reducible repeat (first | refine Xd ?_ _ | refine Xf ?_ | refine Xb ?_ _)); exact BK732.out⟩
    have n7_ : Aside0 (Below w.heap.size w ((((w25.setCell ⟨gb732, 0, none⟩ (.int .i64 t721)).setCell ⟨gb732, 1, none⟩ (.slice Ao27 t722.length co27)).setCell ⟨gb732, 2, none⟩ (.slice Ao29 t725.length co29)).setCell ⟨gb732, 3, none⟩ (.slice Ao31 t728.length co31))) := ⟨J130⟩
    (try clear HO_4)
    (try clear HO720)
    (try clear HO724)
    (try clear HO727)
    (try clear HO730)
    (try clear BK711)
    (try clear BK732)
    (try clear HB)
    generalize ((((w25.setCell ⟨gb732, 0, none⟩ (.int .i64 t721)).setCell ⟨gb732, 1, none⟩ (.slice Ao27 t722.length co27)).setCell ⟨gb732, 2, none⟩ (.slice Ao29 t725.length co29)).setCell ⟨gb732, 3, none⟩ (.slice Ao31 t728.length co31)) = w33 at n0_ n1_ n2_ n3_ n4_ n5_ n6_ n7_ ⊢
    have HO_4 := n0_
    have HO720 := n1_
    have HO724 := n2_
    have HO727 := n3_
    have HO730 := n4_
    have BK711 := n5_
    have BK732 := n6_
    have HB := n7_
    clear n0_ n1_ n2_ n3_ n4_ n5_ n6_ n7_
    have hnb34 := NB732_711.out
    have hnc34 := NB711_732.out
    have Z35 := cz4 BK732.out
    try go_wp2_with (first | ((with_reducible refine Xj (N := 41) rfl ?_); (try (refine Xw J63 ?_; dsimp only)); refine bF k30 _ 30 ?hg (N' := 41) ?hd (xs := ([(⟨t721, t722, t725, t728⟩ : S30)] : List (S30))) (inner := [.int .i64 t721, .slice Ao27 t722.length co27, .slice Ao29 t725.length co29, .slice Ao31 t728.length co31]) (ok := (fun k_ => (w.heap.size ≤ k_) ∧ some k_ ≠ (v716 : Value).ownBlock ∧ some k_ ≠ (v719 : Value).ownBlock ∧ k_ ≠ gb711 ∧ k_ ≠ gb732)) (okp := (fun k_ => (w.heap.size ≤ k_) ∧ some k_ ≠ (v716 : Value).ownBlock ∧ some k_ ≠ (v719 : Value).ownBlock ∧ k_ ≠ gb711 ∧ k_ ≠ gb732)) ?hr ?hp (fun _ hk => hk) ((show ∀ k_, w33.heap.size ≤ k_ → (fun k_ => (w.heap.size ≤ k_) ∧ some k_ ≠ (v716 : Value).ownBlock ∧ some k_ ≠ (v719 : Value).ownBlock ∧ k_ ≠ gb711 ∧ k_ ≠ gb732) k_ from fun k_ hk => ⟨(Nat.le_trans (Xc (zs2 GE711.out GE732.out)) hk), Kd.fresh' (bE (zn HO_4.out)) k_ hk, Kd.fresh' (aY (zr HO720.out)) k_ hk, Kd.freshB (g := gb711) (o := .cells #[.int .i64 ((Xa l0 0).f0), .slice A710_1 ((Xa l0 0).f1).length c710_1, .slice A710_2 ((Xa l0 0).f2).length c710_2, .slice A710_3 ((Xa l0 0).f3).length c710_3] 30 (0, 0)) (zk BK711.out) k_ hk, Kd.freshB (g := gb732) (o := .cells #[.int .i64 t721, .slice Ao27 t722.length co27, .slice Ao29 t725.length co29, .slice Ao31 t728.length co31] 30 (0, 0)) (zk BK732.out) k_ hk⟩) _ (Nat.le_refl _)) (Below.refl _ _) (Nat.le_refl _) J83 ?_; (case hd => rfl); (case hg => rfl); (case hr => first | (go_simp; done) | (go_simp; rfl)); (case hp => exact (Reps.c4 (show Kd.FK k30 _ _ (⟨t721, t722, t725, t728⟩ : S30) [.int .i64 t721, .slice Ao27 t722.length co27, .slice Ao29 t725.length co29, .slice Ao31 t728.length co31] from (mkG _ _ (⟨t721, t722, t725, t728⟩ : S30) (rF (af (ok' := (fun k_ => (w.heap.size ≤ k_) ∧ some k_ ≠ (v716 : Value).ownBlock ∧ some k_ ≠ (v719 : Value).ownBlock ∧ k_ ≠ gb711 ∧ k_ ≠ gb732)) (al (al (aG (aG (HO724.out) (aZ HO_4.out) J14) (aK HO720.out) J14) BK711.out J14) BK732.out J14) (fun k_ hk => ⟨hk.1.1.1.1.1, ⟨hk.1.1.1.2, ⟨hk.1.1.2, ⟨hk.1.2, hk.2⟩⟩⟩⟩))) (rF (af (ok' := (fun k_ => (w.heap.size ≤ k_) ∧ some k_ ≠ (v716 : Value).ownBlock ∧ some k_ ≠ (v719 : Value).ownBlock ∧ k_ ≠ gb711 ∧ k_ ≠ gb732)) (al (al (aG (aG (HO727.out) (aZ HO_4.out) J14) (aK HO720.out) J14) BK711.out J14) BK732.out J14) (fun k_ hk => ⟨hk.1.1.1.1.1, ⟨hk.1.1.1.2, ⟨hk.1.1.2, ⟨hk.1.2, hk.2⟩⟩⟩⟩))) (rF (af (ok' := (fun k_ => (w.heap.size ≤ k_) ∧ some k_ ≠ (v716 : Value).ownBlock ∧ some k_ ≠ (v719 : Value).ownBlock ∧ k_ ≠ gb711 ∧ k_ ≠ gb732)) (al (al (aG (HO730.out) (aZ HO_4.out) J14) BK711.out J14) BK732.out J14) (fun k_ hk => ⟨hk.1.1.1.1, ⟨hk.1.1.2, ⟨hk.1.1.1.2, ⟨hk.1.2, hk.2⟩⟩⟩⟩))))) (Reps.none _ _))); intro v734 w36 ho37 hb hg_ hnew_; clear hg_ hnew_; (first | rw [← Ny733.out] at ho37 | (simp only [Int.reduceToNat] at ho37; rw [← Ny733.out] at ho37)); replace HO_4 := zq (ae (zn HO_4.out) (ao ho37) hb); have HO735 := zq (aH ho37 (Xc (zs2 GE711.out GE732.out))); replace BK711 := zq (Xg (zk BK711.out) hb); replace HB := zq (Xe (zs2 GE711.out GE732.out) hb); clear HO724 HO727 HO730; clear hb ho37))
    go_ret
    exact ⟨_, J1, by (with_reducible repeat (first | apply Kd.N_alloc | apply Kd.N_drewN | apply aC)); exact ap HO735.out (fun _ hk => hk.1), J130⟩
   refine yl H ?_; clear H; rintro y736 Ny736 H
   refine yi H ?_; clear H; intro c38 H
   have LMc38 := zq c38
   clear c38
   obtain ⟨y739, hy739⟩ : ∃ y_ : List Int, y_ = (y736 ++ ((Xa l0 0).f1)) := ⟨_, rfl⟩
   replace H : (deckleref11_form.l0 kj8 t715 (([(⟨5, y739, ([] : List Int), ([] : List (S38))⟩ : S30)] : List (S30))) ([] : List Int) ([] : List (S38)) 0 ((Xa l0 0).f0) ((Xa l0 0).f1) ((Xa l0 0).f2) ((Xa l0 0).f3)) = some r := by first | (rw [hy739]; with_reducible exact H) | (have H2_ := (Option.bind_some _ _).symm.trans H; rw [hy739]; with_reducible exact H2_) | (have H2_ := (Option.bind_some _ _).symm.trans H; with_reducible exact H2_) | with_reducible exact H | (rw [hy739]; exact H) | exact H
   have Ny739 := zq hy739
   clear hy739
   obtain ⟨y742, hy742⟩ : ∃ y_ : List (S30), y_ = (([(⟨5, y739, ([] : List Int), ([] : List (S38))⟩ : S30)] : List (S30))) := ⟨_, rfl⟩
   rw (occs := .pos [1]) [← hy742] at H
   have Ny742 := zq hy742
   clear hy742
   have H' := zq H
   clear H
   go_wp2_with (first | ((with_reducible refine Xj (N := 42) rfl ?_); (try (refine Xw J63 ?_; dsimp only)); refine lwR (Kd.int .i64) 3 42 (xs := ([] : List Int)) [] Ny736 (Reps.none _ _) ?_; intro v737 w39 ho40 hb; replace HO_4 := zq (ae (zn HO_4.out) (aa ho40) hb); have HO738 := zq (ag (aT (M := fun k_ => (w.heap.size ≤ k_)) ho40 (Xc (zs1 GE711.out)) (fun k_ h_ => h_)) (Xc (zs1 GE711.out))); replace BK711 := zq (Xg (zk BK711.out) hb); replace HB := zq (Xe (zs1 GE711.out) hb); clear hb ho40; have Z41 := cz4 BK711.out) | ((with_reducible refine Xa0 (b := .append) (xs := #[.tmp 42, .tmp 44]) rfl ?_); (try (refine Xw J63 ?_; dsimp only)); at_builtin; refine aI (Kd.int .i64) (w0 := w) w.heap.size rfl (.tmp 42) (.tmp 44) 23 3 (.int .i64 0) 8 rfl Try.underlying23 Xcm rfl J14 J29 v737 y736 ((Xa l0 0).f1) _ _ _ (fun k_ => (w.heap.size ≤ k_)) (fun _ => False) rfl rfl ?aO ?aR (fun _ _ h => h) (fun _ h => h.elim) ?aF ?aB ?aS ?aL ?_; (case aR => repeat (first | exact (ac HR710_1.out HB.out) | (with_reducible refine Kd.C_alloc ?_ _) | (with_reducible refine au ?_ _) | (with_reducible refine Kd.C_drew ?_))); (case aB => exact (zs1 GE711.out)); (case aF => exact (fun k_ hk => (Nat.le_trans (Xc (zs1 GE711.out)) hk))); (case aO => exact (by (with_reducible repeat (first | apply Kd.R_alloc | apply ai | apply ak)); exact af HO738.out (fun _ hk => hk.1))); (case aS => exact (Xc (zs1 GE711.out))); (case aL => have := LMc38.out; omega); intro v740 w42 ho hb hg hat; rw [← Ny739.out] at ho; replace HO_4 := zq (aQ (ok := (fun k_ => (w.heap.size ≤ k_) ∧ k_ ≠ gb711)) (zn HO_4.out) hg hat); replace BK711 := zq (Xa9 (g := gb711) (o := .cells #[.int .i64 ((Xa l0 0).f0), .slice A710_1 ((Xa l0 0).f1).length c710_1, .slice A710_2 ((Xa l0 0).f2).length c710_2, .slice A710_3 ((Xa l0 0).f3).length c710_3] 30 (0, 0)) (zk BK711.out) hg (bk HO738.out BK711.out J14)); replace HB := zq (hb); have HO741 := zq (ho); clear HO738; clear ho hb hg hat; obtain ⟨Ao43, co43, eo43⟩ := ah HO741.out; subst eo43) | ((with_reducible refine Xj (N := 47) rfl ?_); (try (refine Xw J63 ?_; dsimp only)); refine bF k30 _ 30 ?hg (N' := 47) ?hd (xs := ([(⟨5, y739, ([] : List Int), ([] : List (S38))⟩ : S30)] : List (S30))) (inner := [.int .i64 5, .slice Ao43 y739.length co43, .slice none 0 0, .slice none 0 0]) (ok := (fun k_ => (w.heap.size ≤ k_) ∧ some k_ ≠ (v716 : Value).ownBlock ∧ k_ ≠ gb711)) (okp := (fun k_ => (w.heap.size ≤ k_) ∧ some k_ ≠ (v716 : Value).ownBlock ∧ k_ ≠ gb711)) ?hr ?hp (fun _ hk => hk) ((show ∀ k_, w42.heap.size ≤ k_ → (fun k_ => (w.heap.size ≤ k_) ∧ some k_ ≠ (v716 : Value).ownBlock ∧ k_ ≠ gb711) k_ from fun k_ hk => ⟨(Nat.le_trans (Xc (zs1 GE711.out)) hk), Kd.fresh' (bE (zn HO_4.out)) k_ hk, Kd.freshB (g := gb711) (o := .cells #[.int .i64 ((Xa l0 0).f0), .slice A710_1 ((Xa l0 0).f1).length c710_1, .slice A710_2 ((Xa l0 0).f2).length c710_2, .slice A710_3 ((Xa l0 0).f3).length c710_3] 30 (0, 0)) (zk BK711.out) k_ hk⟩) _ (Nat.le_refl _)) (Below.refl _ _) (Nat.le_refl _) J83 ?_; (case hd => rfl); (case hg => rfl); (case hr => first | (go_simp; done) | (go_simp; rfl)); (case hp => exact (Reps.c4 (show Kd.FK k30 _ _ (⟨5, y739, ([] : List Int), ([] : List (S38))⟩ : S30) [.int .i64 5, .slice Ao43 y739.length co43, .slice none 0 0, .slice none 0 0] from (mkG _ _ (⟨5, y739, ([] : List Int), ([] : List (S38))⟩ : S30) (rF (af (ok' := (fun k_ => (w.heap.size ≤ k_) ∧ some k_ ≠ (v716 : Value).ownBlock ∧ k_ ≠ gb711)) (al (aG (HO741.out) (aZ HO_4.out) J14) BK711.out J14) (fun k_ hk => ⟨hk.1.1, ⟨hk.1.2, hk.2⟩⟩))) ⟨(Nat.le_refl _), (ba _ _ _)⟩ ⟨(Nat.le_refl _), (ba _ _ _)⟩)) (Reps.none _ _))); intro v743 w44 ho45 hb hg_ hnew_; clear hg_ hnew_; (first | rw [← Ny742.out] at ho45 | (simp only [Int.reduceToNat] at ho45; rw [← Ny742.out] at ho45)); replace HO_4 := zq (ae (zn HO_4.out) (ao ho45) hb); have HO744 := zq (aH ho45 (Xc (zs1 GE711.out))); replace BK711 := zq (Xg (zk BK711.out) hb); replace HB := zq (Xe (zs1 GE711.out) hb); clear HO741; clear hb ho45))
   go_loopg [7, 8, 9, 10] kj8 (fun kq v7 v8 v9 v10 w' => ∃ (x7_2 : List (S30)) (x8_2 : List Int) (x9_2 : List (S38)) (x10_2 : Int), v10 = .int .i64 x10_2 ∧ Aside0 (deckleref11_form.l0 kq t715 x7_2 x8_2 x9_2 x10_2 ((Xa l0 0).f0) ((Xa l0 0).f1) ((Xa l0 0).f2) ((Xa l0 0).f3) = some r) ∧ Aside0 (kq ≤ kj8) ∧ Aside0 (Kd.N (Kd.slice 30 k30) 22 w' w.heap.size (fun k_ => (w.heap.size ≤ k_) ∧ some k_ ≠ (v7 : Value).ownBlock ∧ some k_ ≠ (v8 : Value).ownBlock ∧ some k_ ≠ (v9 : Value).ownBlock ∧ k_ ≠ gb711) v716 t715) ∧ Aside0 (Kd.N k30 30 w' w.heap.size (fun k_ => (w.heap.size ≤ k_) ∧ some k_ ≠ (v716 : Value).ownBlock ∧ some k_ ≠ (v8 : Value).ownBlock ∧ some k_ ≠ (v9 : Value).ownBlock ∧ k_ ≠ gb711) v7 x7_2) ∧ Aside0 (Kd.R (Kd.int .i64) 3 w' w.heap.size (fun k_ => (w.heap.size ≤ k_)) v8 x8_2) ∧ Aside0 (Kd.R k38 38 w' w.heap.size (fun k_ => (w.heap.size ≤ k_)) v9 x9_2) ∧ Aside0 (w'.heap[gb711]? = some (.cells #[.int .i64 ((Xa l0 0).f0), (.slice A710_1 ((Xa l0 0).f1).length c710_1), (.slice A710_2 ((Xa l0 0).f2).length c710_2), (.slice A710_3 ((Xa l0 0).f3).length c710_3)] 30 (0, 0))) ∧ Aside0 (Below w.heap.size w w'))
   case atStart => exact ⟨(y742), (([] : List Int)), (([] : List (S38))), (0), J4, H', ⟨Nat.le_refl _⟩, ⟨by (with_reducible repeat (first | apply Kd.N_alloc | apply Kd.N_drewN | apply aC)); exact ap HO_4.out (fun _ hk => ⟨hk.1.1.1, ⟨hk.2, ⟨J118, ⟨J118, hk.1.1.2⟩⟩⟩⟩)⟩, ⟨by (with_reducible repeat (first | apply Kd.N_alloc | apply Kd.N_drewN | apply aC)); exact ap HO744.out (fun _ hk => ⟨hk.1, ⟨hk.2.1, ⟨J118, ⟨J118, hk.2.2⟩⟩⟩⟩)⟩, ⟨J8⟩, ⟨J8⟩, ⟨J25⟩, ⟨J11⟩⟩
   case round =>
    clear H'
    try clear c3
    try clear c38
    try clear Z41
    obtain ⟨x7_2, x8_2, x9_2, x10_2, rfl, HA, HK2, HO_4, HO_7, HO_8, HO_9, BK711, HB⟩ := hrel
    cases gk with
    | zero => exact absurd HA.out (by simp [deckleref11_form.l0])
    | succ k2 =>
     have H := HA.out
     clear HA
     simp only [deckleref11_form.l0] at H
     refine yd H ?_ ?_ <;> clear H <;> rintro c46b0 H
     ·refine yF H ?_ ?_ <;> clear H <;> rintro ⟨c81b0, c81b1, c81⟩ H
      ·have c81b2 : (x8_2.length == t715.length) = true := by first | simpa using c81 | (simp at c81 ⊢; omega)
       clear c81
       refine yl H ?_; clear H; rintro y778 Ny778 H
       refine yu H ?_ ?_ <;> clear H <;> rintro c82 H
       ·have LMc82 := zq c82
        clear c82
        obtain ⟨y781, hy781⟩ : ∃ y_ : List Int, y_ = (y778 ++ ((Xa l0 0).f1)) := ⟨_, rfl⟩
        replace H : (some (([(⟨3, y781, x8_2, ([] : List (S38))⟩ : S30)] : List (S30)))) = some r := by first | (rw [hy781]; with_reducible exact H) | (have H2_ := (Option.bind_some _ _).symm.trans H; rw [hy781]; with_reducible exact H2_) | (have H2_ := (Option.bind_some _ _).symm.trans H; with_reducible exact H2_) | with_reducible exact H | (rw [hy781]; exact H) | exact H
        have Ny781 := zq hy781
        clear hy781
        refine yS H ?_; clear H; rintro y784 Ny784 H
        obtain rfl := yo H
        obtain ⟨Ao83, co83, eo83⟩ := aJ HO_4.out
        subst eo83
        obtain ⟨Ao84, co84, eo84⟩ := ah HO_8.out
        subst eo84
        go_wp2_with (first | ((with_reducible refine Xj (N := 112) rfl ?_); (try (refine Xw J63 ?_; dsimp only)); refine lwR (Kd.int .i64) 3 112 (xs := ([] : List Int)) [] Ny778 (Reps.none _ _) ?_; intro v779 w85 ho86 hb; replace HO_4 := zq (ae (zn HO_4.out) (aa ho86) hb); replace HO_7 := zq (ae (zn HO_7.out) (aa ho86) hb); replace HO_9 := zq (ab (zr HO_9.out) hb); have HO780 := zq (ag (aW (aT (M := fun k_ => (w.heap.size ≤ k_)) ho86 (Xc (zs1 GE711.out)) (fun k_ h_ => h_)) (aY (zr HO_8.out))) (Xc (zs1 GE711.out))); replace HO_8 := zq (ay (zr HO_8.out) (aa ho86) hb); replace BK711 := zq (Xg (zk BK711.out) hb); replace HB := zq (Xe (zs1 GE711.out) hb); clear hb ho86; have Z87 := cz4 BK711.out) | ((with_reducible refine Xa0 (b := .append) (xs := #[.tmp 112, .tmp 114]) rfl ?_); (try (refine Xw J63 ?_; dsimp only)); at_builtin; refine aI (Kd.int .i64) (w0 := w) w.heap.size rfl (.tmp 112) (.tmp 114) 23 3 (.int .i64 0) 8 rfl Try.underlying23 Xcm rfl J14 J29 v779 y778 ((Xa l0 0).f1) _ _ _ (fun k_ => (w.heap.size ≤ k_) ∧ some k_ ≠ (.slice Ao84 x8_2.length co84 : Value).ownBlock) (fun _ => False) rfl rfl ?aO ?aR (fun _ _ h => h) (fun _ h => h.elim) ?aF ?aB ?aS ?aL ?_; (case aR => repeat (first | exact (ac HR710_1.out HB.out) | (with_reducible refine Kd.C_alloc ?_ _) | (with_reducible refine au ?_ _) | (with_reducible refine Kd.C_drew ?_))); (case aB => exact (zs1 GE711.out)); (case aF => exact (fun k_ hk => ⟨(Nat.le_trans (Xc (zs1 GE711.out)) hk), Kd.fresh' (aY (zr HO_8.out)) k_ hk⟩)); (case aO => exact (by (with_reducible repeat (first | apply Kd.R_alloc | apply ai | apply ak)); exact af HO780.out (fun _ hk => ⟨hk.1.1, hk.2⟩))); (case aS => exact (Xc (zs1 GE711.out))); (case aL => have := LMc82.out; omega); intro v782 w88 ho hb hg hat; rw [← Ny781.out] at ho; replace HO_4 := zq (aQ (ok := (fun k_ => (w.heap.size ≤ k_) ∧ some k_ ≠ (u7 : Value).ownBlock ∧ some k_ ≠ (.slice Ao84 x8_2.length co84 : Value).ownBlock ∧ some k_ ≠ (u9 : Value).ownBlock ∧ k_ ≠ gb711)) (zn HO_4.out) hg hat); replace HO_7 := zq (aQ (ok := (fun k_ => (w.heap.size ≤ k_) ∧ some k_ ≠ (.slice Ao83 t715.length co83 : Value).ownBlock ∧ some k_ ≠ (.slice Ao84 x8_2.length co84 : Value).ownBlock ∧ some k_ ≠ (u9 : Value).ownBlock ∧ k_ ≠ gb711)) (zn HO_7.out) hg hat); replace HO_8 := zq (bo (ok := (fun k_ => (w.heap.size ≤ k_))) (zr HO_8.out) hg hat); replace HO_9 := zq (a9 (zr HO_9.out) (aK (zr HO780.out)) J14 hg); replace BK711 := zq (Xa9 (g := gb711) (o := .cells #[.int .i64 ((Xa l0 0).f0), .slice A710_1 ((Xa l0 0).f1).length c710_1, .slice A710_2 ((Xa l0 0).f2).length c710_2, .slice A710_3 ((Xa l0 0).f3).length c710_3] 30 (0, 0)) (zk BK711.out) hg (bk HO780.out BK711.out J14)); replace HB := zq (hb); have HO783 := zq (ho); clear HO780; clear ho hb hg hat; obtain ⟨Ao89, co89, eo89⟩ := ah HO783.out; subst eo89) | ((with_reducible refine Xj (N := 118) rfl ?_); (try (refine Xw J63 ?_; dsimp only)); refine bF k30 _ 30 ?hg (N' := 118) ?hd (xs := ([(⟨3, y781, x8_2, ([] : List (S38))⟩ : S30)] : List (S30))) (inner := [.int .i64 3, .slice Ao89 y781.length co89, .slice Ao84 x8_2.length co84, .slice none 0 0]) (ok := (fun k_ => (w.heap.size ≤ k_) ∧ some k_ ≠ (.slice Ao83 t715.length co83 : Value).ownBlock ∧ some k_ ≠ (u7 : Value).ownBlock ∧ some k_ ≠ (u9 : Value).ownBlock ∧ k_ ≠ gb711)) (okp := (fun k_ => (w.heap.size ≤ k_) ∧ some k_ ≠ (.slice Ao83 t715.length co83 : Value).ownBlock ∧ some k_ ≠ (u7 : Value).ownBlock ∧ some k_ ≠ (u9 : Value).ownBlock ∧ k_ ≠ gb711)) ?hr ?hp (fun _ hk => hk) ((show ∀ k_, w88.heap.size ≤ k_ → (fun k_ => (w.heap.size ≤ k_) ∧ some k_ ≠ (.slice Ao83 t715.length co83 : Value).ownBlock ∧ some k_ ≠ (u7 : Value).ownBlock ∧ some k_ ≠ (u9 : Value).ownBlock ∧ k_ ≠ gb711) k_ from fun k_ hk => ⟨(Nat.le_trans (Xc (zs1 GE711.out)) hk), Kd.fresh' (bE (zn HO_4.out)) k_ hk, Kd.fresh' (bE (zn HO_7.out)) k_ hk, Kd.fresh' (aY (zr HO_9.out)) k_ hk, Kd.freshB (g := gb711) (o := .cells #[.int .i64 ((Xa l0 0).f0), .slice A710_1 ((Xa l0 0).f1).length c710_1, .slice A710_2 ((Xa l0 0).f2).length c710_2, .slice A710_3 ((Xa l0 0).f3).length c710_3] 30 (0, 0)) (zk BK711.out) k_ hk⟩) _ (Nat.le_refl _)) (Below.refl _ _) (Nat.le_refl _) J83 ?_; (case hd => rfl); (case hg => rfl); (case hr => first | (go_simp; done) | (go_simp; rfl)); (case hp => exact (Reps.c4 (show Kd.FK k30 _ _ (⟨3, y781, x8_2, ([] : List (S38))⟩ : S30) [.int .i64 3, .slice Ao89 y781.length co89, .slice Ao84 x8_2.length co84, .slice none 0 0] from (mkG _ _ (⟨3, y781, x8_2, ([] : List (S38))⟩ : S30) (rF (af (ok' := (fun k_ => (w.heap.size ≤ k_) ∧ some k_ ≠ (.slice Ao83 t715.length co83 : Value).ownBlock ∧ some k_ ≠ (u7 : Value).ownBlock ∧ some k_ ≠ (u9 : Value).ownBlock ∧ k_ ≠ gb711)) (al (aG (aG (aG (HO783.out) (aZ HO_4.out) J14) (aZ HO_7.out) J14) (aK HO_9.out) J14) BK711.out J14) (fun k_ hk => ⟨hk.1.1.1.1.1, ⟨hk.1.1.1.2, ⟨hk.1.1.2, ⟨hk.1.2, hk.2⟩⟩⟩⟩))) (rF (af (ok' := (fun k_ => (w.heap.size ≤ k_) ∧ some k_ ≠ (.slice Ao83 t715.length co83 : Value).ownBlock ∧ some k_ ≠ (u7 : Value).ownBlock ∧ some k_ ≠ (u9 : Value).ownBlock ∧ k_ ≠ gb711)) (al (aG (aG (aG (HO_8.out) (aZ HO_4.out) J14) (aZ HO_7.out) J14) (aK HO_9.out) J14) BK711.out J14) (fun k_ hk => ⟨hk.1.1.1.1.1, ⟨hk.1.1.1.2, ⟨hk.1.1.2, ⟨hk.1.2, hk.2⟩⟩⟩⟩))) ⟨(Nat.le_refl _), (ba _ _ _)⟩)) (Reps.none _ _))); intro v785 w90 ho91 hb hg_ hnew_; clear hg_ hnew_; (first | rw [← Ny784.out] at ho91 | (simp only [Int.reduceToNat] at ho91; rw [← Ny784.out] at ho91)); replace HO_4 := zq (ae (zn HO_4.out) (ao ho91) hb); replace HO_7 := zq (ae (zn HO_7.out) (ao ho91) hb); replace HO_9 := zq (ab (zr HO_9.out) hb); have HO786 := zq (aH ho91 (Xc (zs1 GE711.out))); replace BK711 := zq (Xg (zk BK711.out) hb); replace HB := zq (Xe (zs1 GE711.out) hb); clear HO783 HO_8; clear hb ho91))
        go_ret
        exact ⟨_, J1, by (with_reducible repeat (first | apply Kd.N_alloc | apply Kd.N_drewN | apply aC)); exact ap HO786.out (fun _ hk => hk.1), J11⟩
       ·exact absurd H J83
      ·have c81b2 : (x8_2.length == t715.length) = false := by first | simpa using c81 | (simp at c81 ⊢; omega)
       refine yF H ?_ ?_ <;> clear H <;> rintro ⟨c92b0, c92b1, c92⟩ H
       ·have c92b2 : (x9_2.length == t715.length) = true := by first | simpa using c92 | (simp at c92 ⊢; omega)
        clear c92
        refine yv H ?_; clear H; rintro ⟨t787, t788, t791, t794, t797⟩ A93 H
        dsimp only at H
        refine yS H ?_; clear H; rintro y799 Ny799 H
        obtain rfl := yo H
        obtain ⟨Ao94, co94, eo94⟩ := aJ HO_4.out
        subst eo94
        obtain ⟨Ao95, co95, eo95⟩ := ah HO_8.out
        subst eo95
        obtain ⟨Ao96, co96, eo96⟩ := ah HO_9.out
        subst eo96
        have Z97 := cz4 BK711.out
        go_wp2_with (first | ((with_reducible refine Xi (f := 14) rfl ?_); refine gL 128 Try.func14 #[.slice A710_1 ((Xa l0 0).f1).length c710_1, .slice Ao96 x9_2.length co96] (deckleref11_Numbers.calls k2 _ _ ((Xa l0 0).f1) _ _ x9_2 t787 t788 t791 t794 t797 _ (zc (ac HR710_1.out HB.out)) HC710_1.out (zc ((an HO_9.out).2.2)) ((an HO_9.out).2.1) A93.out) ?_; rintro e w98 ⟨v789, v792, v795, rfl, ho0, ho1, ho2, hb⟩; refine ⟨_, rfl, ?_⟩; replace HO_4 := zq (ap (aw (aw (aw (bf (zn HO_4.out) hb) (aa ho0)) (aa ho1)) (aa ho2)) (fun _ h_ => h_.1)); replace HO_7 := zq (ap (aw (aw (aw (bf (zn HO_7.out) hb) (aa ho0)) (aa ho1)) (aa ho2)) (fun _ h_ => h_.1)); have HO790 := zq (ag (aW (aT (M := fun k_ => (w.heap.size ≤ k_)) ho0 (Xc (zs1 GE711.out)) (fun k_ h_ => h_)) (aY (zr HO_8.out))) (Xc (zs1 GE711.out))); have HO793 := zq (ag (aW (aT (M := fun k_ => (w.heap.size ≤ k_)) ho1 (Xc (zs1 GE711.out)) (fun k_ h_ => h_)) (aY (zr HO_8.out))) (Xc (zs1 GE711.out))); replace HO_8 := zq (af (bd (bd (bv (zr HO_8.out) hb) (aa ho0)) (aa ho1)) (fun _ h_ => h_.1)); have HO796 := zq (ag (aW (aT (M := fun k_ => (w.heap.size ≤ k_)) ho2 (Xc (zs1 GE711.out)) (fun k_ h_ => h_)) (aY (zr HO_9.out))) (Xc (zs1 GE711.out))); replace HO_9 := zq (ay (zr HO_9.out) (aa ho2) hb); replace BK711 := zq (Xg (zk BK711.out) hb); replace HB := zq (Xe (zs1 GE711.out) hb); (try clear hb); (try clear hk); (try clear ho0); (try clear ho1); (try clear ho2)) | ((with_reducible refine Xj (N := 12) rfl ?_); (try (refine Xw J63 ?_; dsimp only)); refine bxw 12 30 #[.int .i64 0, .slice none 0 0, .slice none 0 0, .slice none 0 0] ?_; intro gb798 hg w99 hbox hb; replace HO_4 := zq (aD (aU (zn HO_4.out) gb798 (Nat.le_of_eq hg.symm)) hb); replace HO_7 := zq (aD (aU (zn HO_7.out) gb798 (Nat.le_of_eq hg.symm)) hb); replace HO_8 := zq (ab (zr HO_8.out) hb); replace HO_9 := zq (ab (zr HO_9.out) hb); replace HO790 := zq (ab (zr HO790.out) hb); replace HO793 := zq (ab (zr HO793.out) hb); replace HO796 := zq (ab (zr HO796.out) hb); have BK798 := zq (hbox); have GE798 := zq ((J110 : w.heap.size ≤ gb798)); replace HB := zq (Xe (zs1 GE711.out) hb); have NB711_798 := zq ((J42 : gb711 ≠ gb798)); have NB798_711 := zq ((J43 : gb798 ≠ gb711)); replace BK711 := zq (Xg (zk BK711.out) hb); clear hb hbox hg; have hnb100 := NB798_711.out; have hnc100 := NB711_798.out; have Z101 := cz4 BK798.out; obtain ⟨Ao102, co102, eo102⟩ := ah HO790.out; subst eo102; obtain ⟨Ao103, co103, eo103⟩ := ah HO793.out; subst eo103; obtain ⟨Ao104, co104, eo104⟩ := ah HO796.out; subst eo104) | ((with_reducible refine Xct (t := 30) (p := 12) rfl ?_); refine Xcl (t := 30) (p := 12) (v := ?vo_w105) (w1 := ((((w99.setCell ⟨gb798, 0, none⟩ (.int .i64 t787)).setCell ⟨gb798, 1, none⟩ (.slice Ao102 t788.length co102)).setCell ⟨gb798, 2, none⟩ (.slice Ao103 t791.length co103)).setCell ⟨gb798, 3, none⟩ (.slice Ao104 t794.length co104))) ?hg ?ho ?hn ?hr ?_; (case ho => rfl); (case hg => rfl); (case hn => rfl); (case hr => first | (go_simp; done) | (go_simp; rfl)); intro w105 hw; have n0_ : Aside0 (Kd.N (Kd.slice 30 k30) 22 w105 w.heap.size (fun k_ => (w.heap.size ≤ k_) ∧ some k_ ≠ (u7 : Value).ownBlock ∧ some k_ ≠ (.slice Ao95 x8_2.length co95 : Value).ownBlock ∧ some k_ ≠ (.slice Ao96 x9_2.length co96 : Value).ownBlock ∧ some k_ ≠ (.slice Ao102 t788.length co102 : Value).ownBlock ∧ some k_ ≠ (.slice Ao103 t791.length co103 : Value).ownBlock ∧ some k_ ≠ (.slice Ao104 t794.length co104 : Value).ownBlock ∧ k_ ≠ gb711 ∧ k_ ≠ gb798) (.slice Ao94 t715.length co94) t715) := ⟨(by rw [hw]; exact (by (with_reducible repeat (first | apply Kd.N_alloc | apply Kd.N_drewN | apply aC)); exact ap (fN4 (ap HO_4.out (fun k_ hk => (⟨hk, hk.2⟩ : _ ∧ k_ ≠ gb798)))) (fun _ hk => ⟨hk.1.1.1.1.1.1, ⟨hk.1.1.1.1.1.2.1, ⟨hk.1.1.1.1.1.2.2.1, ⟨hk.1.1.1.1.1.2.2.2.1, ⟨hk.1.1.1.1.2, ⟨hk.1.1.1.2, ⟨hk.1.1.2, ⟨hk.1.1.1.1.1.2.2.2.2, hk.1.2⟩⟩⟩⟩⟩⟩⟩⟩)))⟩; have n1_ : Aside0 (Kd.N k30 30 w105 w.heap.size (fun k_ => (w.heap.size ≤ k_) ∧ some k_ ≠ (.slice Ao94 t715.length co94 : Value).ownBlock ∧ some k_ ≠ (.slice Ao95 x8_2.length co95 : Value).ownBlock ∧ some k_ ≠ (.slice Ao96 x9_2.length co96 : Value).ownBlock ∧ some k_ ≠ (.slice Ao102 t788.length co102 : Value).ownBlock ∧ some k_ ≠ (.slice Ao103 t791.length co103 : Value).ownBlock ∧ some k_ ≠ (.slice Ao104 t794.length co104 : Value).ownBlock ∧ k_ ≠ gb711 ∧ k_ ≠ gb798) u7 x7_2) := ⟨(by rw [hw]; exact (by (with_reducible repeat (first | apply Kd.N_alloc | apply Kd.N_drewN | apply aC)); exact ap (fN4 (ap HO_7.out (fun k_ hk => (⟨hk, hk.2⟩ : _ ∧ k_ ≠ gb798)))) (fun _ hk => ⟨hk.1.1.1.1.1.1, ⟨hk.1.1.1.1.1.2.1, ⟨hk.1.1.1.1.1.2.2.1, ⟨hk.1.1.1.1.1.2.2.2.1, ⟨hk.1.1.1.1.2, ⟨hk.1.1.1.2, ⟨hk.1.1.2, ⟨hk.1.1.1.1.1.2.2.2.2, hk.1.2⟩⟩⟩⟩⟩⟩⟩⟩)))⟩; have n2_ : Aside0 (Kd.R (Kd.int .i64) 3 w105 w.heap.size (fun k_ => (w.heap.size ≤ k_) ∧ some k_ ≠ (.slice Ao102 t788.length co102 : Value).ownBlock ∧ some k_ ≠ (.slice Ao103 t791.length co103 : Value).ownBlock) (.slice Ao95 x8_2.length co95) x8_2) := ⟨(by rw [hw]; exact (by (with_reducible repeat (first | apply Kd.R_alloc | apply ai | apply ak)); exact af (fR4 (al HO_8.out BK798.out J14)) (fun _ hk => ⟨hk.1.1.1, ⟨hk.1.1.2, hk.1.2⟩⟩)))⟩; have n3_ : Aside0 (Kd.R k38 38 w105 w.heap.size (fun k_ => (w.heap.size ≤ k_) ∧ some k_ ≠ (.slice Ao104 t794.length co104 : Value).ownBlock) (.slice Ao96 x9_2.length co96) x9_2) := ⟨(by rw [hw]; exact (by (with_reducible repeat (first | apply Kd.R_alloc | apply ai | apply ak)); exact af (fR4 (al HO_9.out BK798.out J14)) (fun _ hk => ⟨hk.1.1, hk.1.2⟩)))⟩; have n4_ : Aside0 (Kd.R (Kd.int .i64) 3 w105 w.heap.size (fun k_ => (w.heap.size ≤ k_) ∧ some k_ ≠ (.slice Ao95 x8_2.length co95 : Value).ownBlock ∧ some k_ ≠ (.slice Ao103 t791.length co103 : Value).ownBlock) (.slice Ao102 t788.length co102) t788) := ⟨(by rw [hw]; exact (by (with_reducible repeat (first | apply Kd.R_alloc | apply ai | apply ak)); exact af (fR4 (al HO790.out BK798.out J14)) (fun _ hk => ⟨hk.1.1.1, ⟨hk.1.2, hk.1.1.2⟩⟩)))⟩; have n5_ : Aside0 (Kd.R (Kd.int .i64) 3 w105 w.heap.size (fun k_ => (w.heap.size ≤ k_) ∧ some k_ ≠ (.slice Ao95 x8_2.length co95 : Value).ownBlock ∧ some k_ ≠ (.slice Ao102 t788.length co102 : Value).ownBlock) (.slice Ao103 t791.length co103) t791) := ⟨(by rw [hw]; exact (by (with_reducible repeat (first | apply Kd.R_alloc | apply ai | apply ak)); exact af (fR4 (al HO793.out BK798.out J14)) (fun _ hk => ⟨hk.1.1.1, ⟨hk.1.2, hk.1.1.2⟩⟩)))⟩; have n6_ : Aside0 (Kd.R k38 38 w105 w.heap.size (fun k_ => (w.heap.size ≤ k_) ∧ some k_ ≠ (.slice Ao96 x9_2.length co96 : Value).ownBlock) (.slice Ao104 t794.length co104) t794) := ⟨(by rw [hw]; exact (by (with_reducible repeat (first | apply Kd.R_alloc | apply ai | apply ak)); exact af (fR4 (al HO796.out BK798.out J14)) (fun _ hk => ⟨hk.1.1.1, hk.1.2⟩)))⟩; have n7_ : Aside0 (w105.heap[gb711]? = some (.cells #[.int .i64 ((Xa l0 0).f0), .slice A710_1 ((Xa l0 0).f1).length c710_1, .slice A710_2 ((Xa l0 0).f2).length c710_2, .slice A710_3 ((Xa l0 0).f3).length c710_3] 30 (0, 0))) := ⟨(by rw [hw]; exact (by (with_reducible repeat (first | refine Xd ?_ _ | refine Xf ?_ | refine Xb ?_ _)); refine Xab ?_ NB711_798.out _; (with_reducible repeat (first | refine Xd ?_ _ | refine Xf ?_ | refine Xb ?_ _)); refine Xab ?_ NB711_798.out _; (with_reducible repeat (first | refine Xd ?_ _ | refine Xf ?_ | refine Xb ?_ _)); refine Xab ?_ NB711_798.out _; (with_reducible repeat (first | refine Xd ?_ _ | refine Xf ?_ | refine Xb ?_ _)); refine Xab ?_ NB711_798.out _; (with_reducible repeat (first | refine Xd ?_ _ | refine Xf ?_ | refine Xb ?_ _)); exact BK711.out))⟩; have n8_ : Aside0 (w105.heap[gb798]? = some (.cells #[.int .i64 t787, .slice Ao102 t788.length co102, .slice Ao103 t791.length co103, .slice Ao104 t794.length co104] 30 (0, 0))) := ⟨(by rw [hw]; exact (by (with_reducible repeat (first | refine Xd ?_ _ | refine Xf ?_ | refine Xb ?_ _)); refine Xk (cs := #[.int .i64 t787, .slice Ao102 t788.length co102, .slice Ao103 t791.length co103, .slice none 0 0]) ?_ 3 _ rfl; (with_reducible repeat (first | refine Xd ?_ _ | refine Xf ?_ | refine Xb ?_ _)); refine Xk (cs := #[.int .i64 t787, .slice Ao102 t788.length co102, .slice none 0 0, .slice none 0 0]) ?_ 2 _ rfl; (with_reducible repeat (first | refine Xd ?_ _ | refine Xf ?_ | refine Xb ?_ _)); refine Xk (cs := #[.int .i64 t787, .slice none 0 0, .slice none 0 0, .slice none 0 0]) ?_ 1 _ rfl; (with_reducible repeat (first | refine Xd ?_ _ | refine Xf ?_ | refine Xb ?_ _)); refine Xk (cs := #[.int .i64 0, .slice none 0 0, .slice none 0 0, .slice none 0 0]) ?_ 0 _ rfl; (with_reducible repeat (first | refine Xd ?_ _ | refine Xf ?_ | refine Xb ?_ _)); exact BK798.out))⟩; have n9_ : Aside0 (Below w.heap.size w w105) := ⟨(by rw [hw]; exact (zs2 GE711.out GE798.out))⟩; clear hw; clear HO_4; clear HO_7; clear HO_8; clear HO_9; clear HO790; clear HO793; clear HO796; clear BK711; clear BK798; clear HB; have HO_4 := n0_; have HO_7 := n1_; have HO_8 := n2_; have HO_9 := n3_; have HO790 := n4_; have HO793 := n5_; have HO796 := n6_; have BK711 := n7_; have BK798 := n8_; have HB := n9_; clear n0_ n1_ n2_ n3_ n4_ n5_ n6_ n7_ n8_ n9_; have Z106 := cz4 BK798.out) | ((with_reducible refine Xj (N := 132) rfl ?_); (try (refine Xw J63 ?_; dsimp only)); refine bF k30 _ 30 ?hg (N' := 132) ?hd (xs := ([(⟨t787, t788, t791, t794⟩ : S30)] : List (S30))) (inner := [.int .i64 t787, .slice Ao102 t788.length co102, .slice Ao103 t791.length co103, .slice Ao104 t794.length co104]) (ok := (fun k_ => (w.heap.size ≤ k_) ∧ some k_ ≠ (.slice Ao94 t715.length co94 : Value).ownBlock ∧ some k_ ≠ (u7 : Value).ownBlock ∧ some k_ ≠ (.slice Ao95 x8_2.length co95 : Value).ownBlock ∧ some k_ ≠ (.slice Ao96 x9_2.length co96 : Value).ownBlock ∧ k_ ≠ gb711 ∧ k_ ≠ gb798)) (okp := (fun k_ => (w.heap.size ≤ k_) ∧ some k_ ≠ (.slice Ao94 t715.length co94 : Value).ownBlock ∧ some k_ ≠ (u7 : Value).ownBlock ∧ some k_ ≠ (.slice Ao95 x8_2.length co95 : Value).ownBlock ∧ some k_ ≠ (.slice Ao96 x9_2.length co96 : Value).ownBlock ∧ k_ ≠ gb711 ∧ k_ ≠ gb798)) ?hr ?hp (fun _ hk => hk) ((show ∀ k_, w105.heap.size ≤ k_ → (fun k_ => (w.heap.size ≤ k_) ∧ some k_ ≠ (.slice Ao94 t715.length co94 : Value).ownBlock ∧ some k_ ≠ (u7 : Value).ownBlock ∧ some k_ ≠ (.slice Ao95 x8_2.length co95 : Value).ownBlock ∧ some k_ ≠ (.slice Ao96 x9_2.length co96 : Value).ownBlock ∧ k_ ≠ gb711 ∧ k_ ≠ gb798) k_ from fun k_ hk => ⟨(Nat.le_trans (Xc (zs2 GE711.out GE798.out)) hk), Kd.fresh' (bE (zn HO_4.out)) k_ hk, Kd.fresh' (bE (zn HO_7.out)) k_ hk, Kd.fresh' (aY (zr HO_8.out)) k_ hk, Kd.fresh' (aY (zr HO_9.out)) k_ hk, Kd.freshB (g := gb711) (o := .cells #[.int .i64 ((Xa l0 0).f0), .slice A710_1 ((Xa l0 0).f1).length c710_1, .slice A710_2 ((Xa l0 0).f2).length c710_2, .slice A710_3 ((Xa l0 0).f3).length c710_3] 30 (0, 0)) (zk BK711.out) k_ hk, Kd.freshB (g := gb798) (o := .cells #[.int .i64 t787, .slice Ao102 t788.length co102, .slice Ao103 t791.length co103, .slice Ao104 t794.length co104] 30 (0, 0)) (zk BK798.out) k_ hk⟩) _ (Nat.le_refl _)) (Below.refl _ _) (Nat.le_refl _) J83 ?_; (case hd => rfl); (case hg => rfl); (case hr => first | (go_simp; done) | (go_simp; rfl)); (case hp => exact (Reps.c4 (show Kd.FK k30 _ _ (⟨t787, t788, t791, t794⟩ : S30) [.int .i64 t787, .slice Ao102 t788.length co102, .slice Ao103 t791.length co103, .slice Ao104 t794.length co104] from (mkG _ _ (⟨t787, t788, t791, t794⟩ : S30) (rF (af (ok' := (fun k_ => (w.heap.size ≤ k_) ∧ some k_ ≠ (.slice Ao94 t715.length co94 : Value).ownBlock ∧ some k_ ≠ (u7 : Value).ownBlock ∧ some k_ ≠ (.slice Ao95 x8_2.length co95 : Value).ownBlock ∧ some k_ ≠ (.slice Ao96 x9_2.length co96 : Value).ownBlock ∧ k_ ≠ gb711 ∧ k_ ≠ gb798)) (al (al (aG (aG (aG (HO790.out) (aZ HO_4.out) J14) (aZ HO_7.out) J14) (aK HO_9.out) J14) BK711.out J14) BK798.out J14) (fun k_ hk => ⟨hk.1.1.1.1.1.1, ⟨hk.1.1.1.1.2, ⟨hk.1.1.1.2, ⟨hk.1.1.1.1.1.2.1, ⟨hk.1.1.2, ⟨hk.1.2, hk.2⟩⟩⟩⟩⟩⟩))) (rF (af (ok' := (fun k_ => (w.heap.size ≤ k_) ∧ some k_ ≠ (.slice Ao94 t715.length co94 : Value).ownBlock ∧ some k_ ≠ (u7 : Value).ownBlock ∧ some k_ ≠ (.slice Ao95 x8_2.length co95 : Value).ownBlock ∧ some k_ ≠ (.slice Ao96 x9_2.length co96 : Value).ownBlock ∧ k_ ≠ gb711 ∧ k_ ≠ gb798)) (al (al (aG (aG (aG (HO793.out) (aZ HO_4.out) J14) (aZ HO_7.out) J14) (aK HO_9.out) J14) BK711.out J14) BK798.out J14) (fun k_ hk => ⟨hk.1.1.1.1.1.1, ⟨hk.1.1.1.1.2, ⟨hk.1.1.1.2, ⟨hk.1.1.1.1.1.2.1, ⟨hk.1.1.2, ⟨hk.1.2, hk.2⟩⟩⟩⟩⟩⟩))) (rF (af (ok' := (fun k_ => (w.heap.size ≤ k_) ∧ some k_ ≠ (.slice Ao94 t715.length co94 : Value).ownBlock ∧ some k_ ≠ (u7 : Value).ownBlock ∧ some k_ ≠ (.slice Ao95 x8_2.length co95 : Value).ownBlock ∧ some k_ ≠ (.slice Ao96 x9_2.length co96 : Value).ownBlock ∧ k_ ≠ gb711 ∧ k_ ≠ gb798)) (al (al (aG (aG (aG (HO796.out) (aZ HO_4.out) J14) (aZ HO_7.out) J14) (aK HO_8.out) J14) BK711.out J14) BK798.out J14) (fun k_ hk => ⟨hk.1.1.1.1.1.1, ⟨hk.1.1.1.1.2, ⟨hk.1.1.1.2, ⟨hk.1.1.2, ⟨hk.1.1.1.1.1.2, ⟨hk.1.2, hk.2⟩⟩⟩⟩⟩⟩))))) (Reps.none _ _))); intro v800 w107 ho108 hb hg_ hnew_; clear hg_ hnew_; (first | rw [← Ny799.out] at ho108 | (simp only [Int.reduceToNat] at ho108; rw [← Ny799.out] at ho108)); replace HO_4 := zq (ae (zn HO_4.out) (ao ho108) hb); replace HO_7 := zq (ae (zn HO_7.out) (ao ho108) hb); replace HO_8 := zq (ab (zr HO_8.out) hb); replace HO_9 := zq (ab (zr HO_9.out) hb); have HO801 := zq (aH ho108 (Xc (zs2 GE711.out GE798.out))); replace HB := zq (Xe (zs2 GE711.out GE798.out) hb); clear HO790 HO793 HO796; clear hb ho108))
        go_ret
        exact ⟨_, J1, by (with_reducible repeat (first | apply Kd.N_alloc | apply Kd.N_drewN | apply aC)); exact ap HO801.out (fun _ hk => hk.1), by repeat (first | (with_reducible first | exact HB.out | apply Xaf | apply X3 | apply X9 | refine X0 ?_ GE711.out | refine X0 ?_ GE798.out) | exact HB.out)⟩
       ·have c92b2 : (x9_2.length == t715.length) = false := by first | simpa using c92 | (simp at c92 ⊢; omega)
        obtain rfl := yo H
        obtain ⟨Ao109, co109, eo109⟩ := aJ HO_4.out
        subst eo109
        obtain ⟨Ao110, co110, eo110⟩ := ah HO_8.out
        subst eo110
        obtain ⟨Ao111, co111, eo111⟩ := ah HO_9.out
        subst eo111
        go_wp2
        go_ret
        exact ⟨_, J1, by (with_reducible repeat (first | apply Kd.N_alloc | apply Kd.N_drewN | apply aC)); exact ap HO_7.out (fun _ hk => hk.1), J11⟩
     refine yj H ?_; clear H; intro c47b0 H
     refine yv H ?_; clear H; rintro t746 A48 H
     refine yi H ?_; clear H; intro c49 H
     have LMc49 := zq c49
     clear c49
     refine yl H ?_; clear H; rintro y749 Ny749 H
     have HC50 := zq H
     clear H
     obtain ⟨Ao51, co51, eo51⟩ := aJ HO_4.out
     subst eo51
     have p745 : 0 ≤ (x10_2 : Int) := of_decide_eq_true J2
     have q745 : x10_2 < (t715.length : Int) := of_decide_eq_true J2
     obtain ⟨ad745, A745_0, c745_0, e745, hx745_0, hl745_0, hi745_0⟩ := at_L5 (ar HO_4.out).2.2 x10_2 p745 q745
     cases e745
     obtain ⟨ce745, hce745, hMe745, hcc745⟩ := bM HO_4.out [] x10_2 p745 (by first | exact q745 | exact of_decide_eq_true J2 | (have e_ := (ar HO_4.out).1; omega))
     obtain ⟨ua745_0, uc745_0, rfl, ul745_0, ge745_0⟩ := bg hMe745
     have hv745_0 := hcc745 0 _ rfl
     rw [Nat.add_zero, show ((Kd.slice 30 k30)).sz = 1 from rfl, Nat.mul_one] at hv745_0
     replace hv745_0 := Option.some.inj (hv745_0.symm.trans hx745_0)
     injection hv745_0 with hva_ hvn_ hvc_
     rw [hva_] at ge745_0
     rw [hvc_] at ul745_0
     have HL745_0 := zq (show Kd.V k30 30 _ w.heap.size _ _ (Xa5 t715 x10_2) from be ul745_0 ge745_0)
     clear hva_ hvn_ hvc_ ge745_0 ul745_0
     clear hcc745 hce745
     have HR745_0 := zq hi745_0
     have HC745_0 := zq hl745_0
     clear hi745_0 hl745_0
     replace p745 := eq_true p745
     replace q745 := eq_true q745
     go_upto_region 16 with (first | ((with_reducible refine Xi (f := 29) rfl ?_); refine Xbz (some 58) rfl rfl Try.func29 J17 rfl #[.slice A745_0 (Xa5 t715 x10_2).length c745_0] rfl J3 ?_; (with_reducible refine (ih k2 (by have := HJ8.out; have := HK2.out; omega) _ _ (Xa5 t715 x10_2) t746 _ ?side1 ?side2 A48.out).mono ?_); (case side1 => repeat (first | exact (by repeat (first | (with_reducible exact HR745_0.out) | (with_reducible refine Kd.C_alloc ?_ _) | (with_reducible refine au ?_ _) | (with_reducible refine Kd.C_drew ?_) | exact HR745_0.out)) | (with_reducible refine Kd.C_alloc ?_ _) | (with_reducible refine au ?_ _) | (with_reducible refine Kd.C_drew ?_))); (case side2 => exact HC745_0.out); rintro e w52 ⟨v747, rfl, ho0, hb⟩; refine ⟨_, rfl, ?_⟩; have HO748 := zq (aH (ap (ok' := fun k_ => (w.heap.size ≤ k_) ∧ some k_ ≠ (.slice (some ad745) t715.length co51 : Value).ownBlock ∧ some k_ ≠ (u7 : Value).ownBlock ∧ some k_ ≠ (u8 : Value).ownBlock ∧ some k_ ≠ (u9 : Value).ownBlock ∧ k_ ≠ gb711) ho0 (fun k_ hk_ => ⟨(Nat.le_trans (Xc (zs1 GE711.out)) hk_), (Kd.fresh' (bE (zn HO_4.out)) k_ hk_), (Kd.fresh' (bE (zn HO_7.out)) k_ hk_), (Kd.fresh' (aY (zr HO_8.out)) k_ hk_), (Kd.fresh' (aY (zr HO_9.out)) k_ hk_), (Kd.freshB (g := gb711) (o := .cells #[.int .i64 ((Xa l0 0).f0), .slice A710_1 ((Xa l0 0).f1).length c710_1, .slice A710_2 ((Xa l0 0).f2).length c710_2, .slice A710_3 ((Xa l0 0).f3).length c710_3] 30 (0, 0)) (zk BK711.out) k_ hk_)⟩)) (Xc (zs1 GE711.out))); replace HO_4 := zq (ae (zn HO_4.out) (ao ho0) hb); replace HO_7 := zq (ae (zn HO_7.out) (ao ho0) hb); replace HO_8 := zq (ab (zr HO_8.out) hb); replace HO_9 := zq (ab (zr HO_9.out) hb); replace BK711 := zq (Xg (zk BK711.out) hb); replace HB := zq (Xe (zs1 GE711.out) hb); (try clear hb); (try clear hk); (try clear ho0); obtain ⟨Ao54, co54, eo54⟩ := aJ HO748.out; subst eo54) | ((with_reducible refine Xa0 (b := .append) (xs := #[.tmp 59, .tmp 60]) rfl ?_); (try (refine Xw J63 ?_; dsimp only)); at_builtin; refine bj k30 (w0 := w) w.heap.size rfl (.tmp 59) (.tmp 60) 22 30 (.agg #[(.int .i64 0), (.slice none 0 0), (.slice none 0 0), (.slice none 0 0)]) 80 rfl Try.underlying22 Xck rfl J14 J29 u7 x7_2 t746 _ _ _ (fun k_ => (w.heap.size ≤ k_) ∧ some k_ ≠ (.slice (some ad745) t715.length co51 : Value).ownBlock ∧ some k_ ≠ (u8 : Value).ownBlock ∧ some k_ ≠ (u9 : Value).ownBlock ∧ k_ ≠ gb711) (fun k_ => ((fun k_ => (w.heap.size ≤ k_) ∧ some k_ ≠ (.slice (some ad745) t715.length co51 : Value).ownBlock ∧ some k_ ≠ (u8 : Value).ownBlock ∧ some k_ ≠ (u9 : Value).ownBlock ∧ k_ ≠ gb711)) k_ ∧ some k_ ≠ (u7 : Value).ownBlock) rfl rfl ?aO ?aR (fun _ hk => hk) ?aF ?aB ?aS ?aL ?_; (case aR => exact (by skip; exact Kd.N_F (ap (ok' := (fun k_ => ((fun k_ => (w.heap.size ≤ k_) ∧ some k_ ≠ (.slice (some ad745) t715.length co51 : Value).ownBlock ∧ some k_ ≠ (u8 : Value).ownBlock ∧ some k_ ≠ (u9 : Value).ownBlock ∧ k_ ≠ gb711)) k_ ∧ some k_ ≠ (u7 : Value).ownBlock)) (HO748.out) (fun k_ hk => ⟨⟨hk.1, ⟨hk.2.1, ⟨hk.2.2.2.1, ⟨hk.2.2.2.2.1, hk.2.2.2.2.2⟩⟩⟩⟩, hk.2.2.1⟩)))); (case aB => exact (zs1 GE711.out)); (case aF => exact (fun k_ hk => ⟨(Nat.le_trans (Xc (zs1 GE711.out)) hk), Kd.fresh' (bE (zn HO_4.out)) k_ hk, Kd.fresh' (aY (zr HO_8.out)) k_ hk, Kd.fresh' (aY (zr HO_9.out)) k_ hk, Kd.freshB (g := gb711) (o := .cells #[.int .i64 ((Xa l0 0).f0), .slice A710_1 ((Xa l0 0).f1).length c710_1, .slice A710_2 ((Xa l0 0).f2).length c710_2, .slice A710_3 ((Xa l0 0).f3).length c710_3] 30 (0, 0)) (zk BK711.out) k_ hk⟩)); (case aO => exact (by (with_reducible repeat (first | apply Kd.N_alloc | apply Kd.N_drewN | apply aC)); exact ap HO_7.out (fun _ hk => ⟨hk.1.1, ⟨hk.1.2.1, ⟨hk.1.2.2.1, ⟨hk.1.2.2.2.1, hk.1.2.2.2.2⟩⟩⟩⟩))); (case aS => exact (Xc (zs1 GE711.out))); (case aL => have := LMc49.out; omega); intro v750 w53 ho hb hg hat; rw [← Ny749.out] at ho; replace HO_4 := zq (aQ (ok := (fun k_ => (w.heap.size ≤ k_) ∧ some k_ ≠ (u8 : Value).ownBlock ∧ some k_ ≠ (u9 : Value).ownBlock ∧ some k_ ≠ (.slice Ao54 t746.length co54 : Value).ownBlock ∧ k_ ≠ gb711)) (by (with_reducible repeat (first | apply Kd.N_alloc | apply Kd.N_drewN | apply aC)); exact ap HO_4.out (fun _ hk => ⟨⟨hk.1.1, ⟨hk.1.2.2.1, ⟨hk.1.2.2.2.1, ⟨hk.2, hk.1.2.2.2.2⟩⟩⟩⟩, hk.1.2.1⟩)) hg hat); replace HO_8 := zq (a9 (zr HO_8.out) (aZ (zn HO_7.out)) J14 hg); replace HO_9 := zq (a9 (zr HO_9.out) (aZ (zn HO_7.out)) J14 hg); replace BK711 := zq (Xa9 (g := gb711) (o := .cells #[.int .i64 ((Xa l0 0).f0), .slice A710_1 ((Xa l0 0).f1).length c710_1, .slice A710_2 ((Xa l0 0).f2).length c710_2, .slice A710_3 ((Xa l0 0).f3).length c710_3] 30 (0, 0)) (zk BK711.out) hg (cy HO_7.out (fun _ hk => hk.1.2.2.2.2))); replace HO748 := zq (aQ (ok := (fun k_ => (w.heap.size ≤ k_) ∧ some k_ ≠ (.slice (some ad745) t715.length co51 : Value).ownBlock ∧ some k_ ≠ (u8 : Value).ownBlock ∧ some k_ ≠ (u9 : Value).ownBlock ∧ k_ ≠ gb711)) (by (with_reducible repeat (first | apply Kd.N_alloc | apply Kd.N_drewN | apply aC)); exact ap HO748.out (fun _ hk => ⟨⟨hk.1, ⟨hk.2.1, ⟨hk.2.2.2.1, ⟨hk.2.2.2.2.1, hk.2.2.2.2.2⟩⟩⟩⟩, hk.2.2.1⟩)) hg hat); replace HB := zq (hb); have HO751 := zq (ho); clear HO_7; clear ho hb hg hat))
     (try simp only [Act.put, List.setIfInBounds_toArray, List.set_cons_zero, List.set_cons_succ])
     go_cut [74] (fun v74 wc => ∃ (kq : Nat) (x74_49 : Bool), v74 = .bool x74_49 ∧ Aside0 (deckleref11_form.j2 kq t715 y749 x8_2 x9_2 x10_2 t746 x74_49 ((Xa l0 0).f0) ((Xa l0 0).f1) ((Xa l0 0).f2) ((Xa l0 0).f3) = some r) ∧ Aside0 (kq ≤ k2) ∧ Aside0 (Kd.N (Kd.slice 30 k30) 22 wc w.heap.size (fun k_ => (w.heap.size ≤ k_) ∧ some k_ ≠ (v750 : Value).ownBlock ∧ some k_ ≠ (u8 : Value).ownBlock ∧ some k_ ≠ (u9 : Value).ownBlock ∧ some k_ ≠ ((.slice Ao54 t746.length co54) : Value).ownBlock ∧ k_ ≠ gb711) (.slice (some ad745) t715.length co51) t715) ∧ Aside0 (Kd.N k30 30 wc w.heap.size (fun k_ => (w.heap.size ≤ k_) ∧ some k_ ≠ ((.slice (some ad745) t715.length co51) : Value).ownBlock ∧ some k_ ≠ (u8 : Value).ownBlock ∧ some k_ ≠ (u9 : Value).ownBlock ∧ k_ ≠ gb711) v750 y749) ∧ Aside0 (Kd.R (Kd.int .i64) 3 wc w.heap.size (fun k_ => (w.heap.size ≤ k_)) u8 x8_2) ∧ Aside0 (Kd.R k38 38 wc w.heap.size (fun k_ => (w.heap.size ≤ k_)) u9 x9_2) ∧ Aside0 (Kd.N k30 30 wc w.heap.size (fun k_ => (w.heap.size ≤ k_) ∧ some k_ ≠ ((.slice (some ad745) t715.length co51) : Value).ownBlock ∧ some k_ ≠ (v750 : Value).ownBlock ∧ some k_ ≠ (u8 : Value).ownBlock ∧ some k_ ≠ (u9 : Value).ownBlock ∧ k_ ≠ gb711) (.slice Ao54 t746.length co54) t746) ∧ Aside0 (wc.heap[gb711]? = some (.cells #[.int .i64 ((Xa l0 0).f0), (.slice A710_1 ((Xa l0 0).f1).length c710_1), (.slice A710_2 ((Xa l0 0).f2).length c710_2), (.slice A710_3 ((Xa l0 0).f3).length c710_3)] 30 (0, 0))) ∧ Aside0 (Below w.heap.size w wc))
     case first =>
      have H := HC50.out
      clear HC50
      refine yi H ?_; clear H; intro c55 H
      have c55b0 := decide_eq_true c55
      have c55b1 : decide (0 < t746.length) = true := decide_eq_true J29
      clear c55
      (first | rw [c55b0] | (simp only [Xan, Xaq]; rw [c55b0]) | skip)
      refine yE H ?_ ?_ <;> clear H <;> rintro ⟨c56b0, c56b1, c56⟩ H
      ·have c56b2 : ¬ (((Xa t746 0).f1) = []) := fun h_ => c56 (by rw [h_]; rfl)
       have H' := zq H
       clear H
       obtain ⟨ad752, A752_1, c752_1, A752_2, c752_2, A752_3, c752_3, e752, hx752_0, hx752_1, hx752_2, hx752_3, HL752_1, HL752_2, HL752_3, HR752_1, HC752_1, HR752_2, HC752_2, HR752_3, HC752_3, p752, q752, qi752⟩ := rdN0 HO748.out w.heap.size
       cases e752
       go_wp2
       go_meet
       case rel => exact ⟨_, (false), J4, H', ⟨by have := HJ8.out; have := HK2.out; first | omega | exact Nat.le_refl _⟩, ⟨J122⟩, ⟨J181⟩, ⟨J64⟩, ⟨J47⟩, ⟨J121⟩, ⟨J25⟩, ⟨J11⟩⟩
      clear c56
      have H' := zq H
      clear H
      obtain ⟨ad752, A752_1, c752_1, A752_2, c752_2, A752_3, c752_3, e752, hx752_0, hx752_1, hx752_2, hx752_3, HL752_1, HL752_2, HL752_3, HR752_1, HC752_1, HR752_2, HC752_2, HR752_3, HC752_3, p752, q752, qi752⟩ := rdN0 HO748.out w.heap.size
      cases e752
      go_wp2
      go_meet
      case rel => exact ⟨_, ((((Xa t746 0).f0) == 3)), J4, H', ⟨by have := HJ8.out; have := HK2.out; first | omega | exact Nat.le_refl _⟩, ⟨J122⟩, ⟨J181⟩, ⟨J64⟩, ⟨J47⟩, ⟨J121⟩, ⟨J25⟩, ⟨J11⟩⟩
     case rest =>
      clear HC50
      try clear c2
      try clear c3
      try clear c38
      try clear c46b0
      try clear c47b0
      try clear c49
      try clear Z41
      try clear hx745_0
      try clear p745
      try clear q745
      obtain ⟨kq, x74_49, rfl, HA, HJ49, HO_4, HO_7, HO_8, HO_9, HO_11, BK711, HB⟩ := hcut
      cases kq with
      | zero => exact absurd HA.out (by simp [deckleref11_form.j2])
      | succ kj49 =>
       have H := HA.out
       clear HA
       simp only [deckleref11_form.j2] at H
       refine yC H ?_ ?_ <;> clear H <;> rintro rfl H
       ·refine yu H ?_ ?_ <;> clear H <;> rintro c58 H
        ·have c58b0 : decide (0 < (t746.length : Int)) = true := decide_eq_true c58
         have c58b1 : decide (0 < t746.length) = true := decide_eq_true J29
         clear c58
         refine yu H ?_ ?_ <;> clear H <;> rintro c59 H
         ·have LMc59 := zq c59
          clear c59
          refine yl H ?_; clear H; rintro y755 Ny755 H
          refine yF H ?_ ?_ <;> clear H <;> rintro ⟨c60b0, c60b1, c60⟩ H
          ·clear c60
           refine yF H ?_ ?_ <;> clear H <;> rintro ⟨c61b0, c61b1, c61⟩ H
           ·clear c61
            have H' := zq H
            clear H
            obtain ⟨ad754, A754_1, c754_1, A754_2, c754_2, A754_3, c754_3, e754, hx754_0, hx754_1, hx754_2, hx754_3, HL754_1, HL754_2, HL754_3, HR754_1, HC754_1, HR754_2, HC754_2, HR754_3, HC754_3, p754, q754, qi754⟩ := rdN0 HO_11.out w.heap.size
            cases e754
            go_wp2_with (first | ((with_reducible refine Xa0 (b := .append) (xs := #[.tmp 75, .tmp 79]) rfl ?_); (try (refine Xw J63 ?_; dsimp only)); at_builtin; refine aI (Kd.int .i64) (w0 := w) w.heap.size rfl (.tmp 75) (.tmp 79) 23 3 (.int .i64 0) 8 rfl Try.underlying23 Xcm rfl J14 J29 u8 x8_2 ((Xa t746 0).f2) _ _ _ (fun k_ => (w.heap.size ≤ k_)) (fun _ => False) rfl rfl ?aO ?aR (fun _ _ h => h) (fun _ h => h.elim) ?aF ?aB ?aS ?aL ?_; (case aR => repeat (first | exact J61 | (with_reducible refine Kd.C_alloc ?_ _) | (with_reducible refine au ?_ _) | (with_reducible refine Kd.C_drew ?_))); (case aB => exact (zs1 GE711.out)); (case aF => exact (fun k_ hk => (Nat.le_trans (Xc (zs1 GE711.out)) hk))); (case aO => exact (zr HO_8.out)); (case aS => exact (Xc (zs1 GE711.out))); (case aL => have := LMc59.out; omega); intro v756 w62 ho hb hg hat; rw [← Ny755.out] at ho; replace HO_4 := zq (aQ (ok := (fun k_ => (w.heap.size ≤ k_) ∧ some k_ ≠ (v750 : Value).ownBlock ∧ some k_ ≠ (u9 : Value).ownBlock ∧ some k_ ≠ (.slice (some ad754) t746.length co54 : Value).ownBlock ∧ k_ ≠ gb711)) J51 hg hat); replace HO_7 := zq (aQ (ok := (fun k_ => (w.heap.size ≤ k_) ∧ some k_ ≠ (.slice (some ad745) t715.length co51 : Value).ownBlock ∧ some k_ ≠ (u9 : Value).ownBlock ∧ k_ ≠ gb711)) J55 hg hat); replace HO_9 := zq (a9 (zr HO_9.out) (aK (zr HO_8.out)) J14 hg); replace HO_11 := zq (aQ (ok := (fun k_ => (w.heap.size ≤ k_) ∧ some k_ ≠ (.slice (some ad745) t715.length co51 : Value).ownBlock ∧ some k_ ≠ (v750 : Value).ownBlock ∧ some k_ ≠ (u9 : Value).ownBlock ∧ k_ ≠ gb711)) J49 hg hat); replace BK711 := zq (Xa9 (g := gb711) (o := .cells #[.int .i64 ((Xa l0 0).f0), .slice A710_1 ((Xa l0 0).f1).length c710_1, .slice A710_2 ((Xa l0 0).f2).length c710_2, .slice A710_3 ((Xa l0 0).f3).length c710_3] 30 (0, 0)) (zk BK711.out) hg (bk HO_8.out BK711.out J14)); replace HL754_1 := zq (aN (ok := (fun k_ => (w.heap.size ≤ k_) ∧ some k_ ≠ (.slice (some ad745) t715.length co51 : Value).ownBlock ∧ some k_ ≠ (v750 : Value).ownBlock ∧ some k_ ≠ (u9 : Value).ownBlock ∧ some k_ ≠ (.slice (some ad754) t746.length co54 : Value).ownBlock ∧ k_ ≠ gb711)) J65 hg hat); replace HL754_2 := zq (aN (ok := (fun k_ => (w.heap.size ≤ k_) ∧ some k_ ≠ (.slice (some ad745) t715.length co51 : Value).ownBlock ∧ some k_ ≠ (v750 : Value).ownBlock ∧ some k_ ≠ (u9 : Value).ownBlock ∧ some k_ ≠ (.slice (some ad754) t746.length co54 : Value).ownBlock ∧ k_ ≠ gb711)) J66 hg hat); replace HL754_3 := zq (aN (ok := (fun k_ => (w.heap.size ≤ k_) ∧ some k_ ≠ (.slice (some ad745) t715.length co51 : Value).ownBlock ∧ some k_ ≠ (v750 : Value).ownBlock ∧ some k_ ≠ (u9 : Value).ownBlock ∧ some k_ ≠ (.slice (some ad754) t746.length co54 : Value).ownBlock ∧ k_ ≠ gb711)) J67 hg hat); replace HB := zq (hb); have HO757 := zq (ho); clear HO_8; clear ho hb hg hat; have p758 : 0 ≤ (0 : Int) := J29; have q758 : 0 < (t746.length : Int) := of_decide_eq_true J2; obtain ⟨ad758, A758_1, c758_1, A758_2, c758_2, A758_3, c758_3, e758, hx758_0, hx758_1, hx758_2, hx758_3, hl758_1, hi758_1, hl758_2, hi758_2, hl758_3, hi758_3⟩ := Xb4 (ar HO_11.out).2.2 0 p758 q758; obtain rfl : ad754 = ad758 := (by injection e758); obtain ⟨ce758, hce758, hMe758, hcc758⟩ := bM HO_11.out z30 0 p758 J105; obtain ⟨ua758_1, uc758_1, ua758_2, uc758_2, ua758_3, uc758_3, rfl, ul758_1, ge758_1, ul758_2, ge758_2, ul758_3, ge758_3⟩ := Xca hMe758; have hv758_1 := hcc758 1 _ rfl; rw [Xa1 _ _ 1 J29] at hv758_1; replace hv758_1 := Option.some.inj (hv758_1.symm.trans hx758_1); injection hv758_1 with hva_ hvn_ hvc_; rw [hva_] at ge758_1; rw [hvc_] at ul758_1; have HL758_1 := zq (show Kd.V (Kd.int .i64) 3 _ w.heap.size _ _ ((Xa t746 0).f1) from be ul758_1 ge758_1); clear hva_ hvn_ hvc_ ge758_1 ul758_1; have hv758_2 := hcc758 2 _ rfl; rw [Xa1 _ _ 2 J29] at hv758_2; replace hv758_2 := Option.some.inj (hv758_2.symm.trans hx758_2); injection hv758_2 with hva_ hvn_ hvc_; rw [hva_] at ge758_2; rw [hvc_] at ul758_2; have HL758_2 := zq (show Kd.V (Kd.int .i64) 3 _ w.heap.size _ _ ((Xa t746 0).f2) from be ul758_2 ge758_2); clear hva_ hvn_ hvc_ ge758_2 ul758_2; have hv758_3 := hcc758 3 _ rfl; rw [Xa1 _ _ 3 J29] at hv758_3; replace hv758_3 := Option.some.inj (hv758_3.symm.trans hx758_3); injection hv758_3 with hva_ hvn_ hvc_; rw [hva_] at ge758_3; rw [hvc_] at ul758_3; have HL758_3 := zq (show Kd.V k38 38 _ w.heap.size _ _ ((Xa t746 0).f3) from be ul758_3 ge758_3); clear hva_ hvn_ hvc_ ge758_3 ul758_3; clear hcc758 hce758; have qi758 : (0 < t746.length) = True := eq_true J29; (try rw [show ((0 : Int)).toNat = 0 from rfl] at hx758_0); (try rw [show 0 * 4 = 0 from rfl] at hx758_0); (try rw [Addr.add_zero'] at hx758_0); (try rw [show ((0 : Int)).toNat = 0 from rfl] at hx758_1); (try rw [show 0 * 4 = 0 from rfl] at hx758_1); (try rw [Addr.add_zero'] at hx758_1); (try rw [show ((0 : Int)).toNat = 0 from rfl] at hx758_2); (try rw [show 0 * 4 = 0 from rfl] at hx758_2); (try rw [Addr.add_zero'] at hx758_2); (try rw [show ((0 : Int)).toNat = 0 from rfl] at hx758_3); (try rw [show 0 * 4 = 0 from rfl] at hx758_3); (try rw [Addr.add_zero'] at hx758_3); have HR758_1 := zq hi758_1; have HC758_1 := zq hl758_1; clear hi758_1 hl758_1; have HR758_2 := zq hi758_2; have HC758_2 := zq hl758_2; clear hi758_2 hl758_2; have HR758_3 := zq hi758_3; have HC758_3 := zq hl758_3; clear hi758_3 hl758_3; replace p758 := eq_true p758; replace q758 := eq_true q758))
            go_roundg kj49
            case measure => have := HJ8.out; have := HK2.out; have := HJ49.out; omega
            case rel => exact ⟨(y749), (y755), (x9_2), (wrap64 (x10_2 + 1)), J4, H', ⟨J91⟩, ⟨J89⟩, ⟨J92⟩, ⟨J101⟩, ⟨J47⟩, ⟨J25⟩, ⟨J11⟩⟩
           ·refine yF H ?_ ?_ <;> clear H <;> rintro ⟨c63b0, c63b1, c63⟩ H
            ·clear c63
             have H' := zq H
             clear H
             obtain ⟨ad754, A754_1, c754_1, A754_2, c754_2, A754_3, c754_3, e754, hx754_0, hx754_1, hx754_2, hx754_3, HL754_1, HL754_2, HL754_3, HR754_1, HC754_1, HR754_2, HC754_2, HR754_3, HC754_3, p754, q754, qi754⟩ := rdN0 HO_11.out w.heap.size
             cases e754
             go_wp2_with (first | ((with_reducible refine Xa0 (b := .append) (xs := #[.tmp 75, .tmp 79]) rfl ?_); (try (refine Xw J63 ?_; dsimp only)); at_builtin; refine aI (Kd.int .i64) (w0 := w) w.heap.size rfl (.tmp 75) (.tmp 79) 23 3 (.int .i64 0) 8 rfl Try.underlying23 Xcm rfl J14 J29 u8 x8_2 ((Xa t746 0).f2) _ _ _ (fun k_ => (w.heap.size ≤ k_)) (fun _ => False) rfl rfl ?aO ?aR (fun _ _ h => h) (fun _ h => h.elim) ?aF ?aB ?aS ?aL ?_; (case aR => repeat (first | exact J61 | (with_reducible refine Kd.C_alloc ?_ _) | (with_reducible refine au ?_ _) | (with_reducible refine Kd.C_drew ?_))); (case aB => exact (zs1 GE711.out)); (case aF => exact (fun k_ hk => (Nat.le_trans (Xc (zs1 GE711.out)) hk))); (case aO => exact (zr HO_8.out)); (case aS => exact (Xc (zs1 GE711.out))); (case aL => have := LMc59.out; omega); intro v756 w64 ho hb hg hat; rw [← Ny755.out] at ho; replace HO_4 := zq (aQ (ok := (fun k_ => (w.heap.size ≤ k_) ∧ some k_ ≠ (v750 : Value).ownBlock ∧ some k_ ≠ (u9 : Value).ownBlock ∧ some k_ ≠ (.slice (some ad754) t746.length co54 : Value).ownBlock ∧ k_ ≠ gb711)) J51 hg hat); replace HO_7 := zq (aQ (ok := (fun k_ => (w.heap.size ≤ k_) ∧ some k_ ≠ (.slice (some ad745) t715.length co51 : Value).ownBlock ∧ some k_ ≠ (u9 : Value).ownBlock ∧ k_ ≠ gb711)) J55 hg hat); replace HO_9 := zq (a9 (zr HO_9.out) (aK (zr HO_8.out)) J14 hg); replace HO_11 := zq (aQ (ok := (fun k_ => (w.heap.size ≤ k_) ∧ some k_ ≠ (.slice (some ad745) t715.length co51 : Value).ownBlock ∧ some k_ ≠ (v750 : Value).ownBlock ∧ some k_ ≠ (u9 : Value).ownBlock ∧ k_ ≠ gb711)) J49 hg hat); replace BK711 := zq (Xa9 (g := gb711) (o := .cells #[.int .i64 ((Xa l0 0).f0), .slice A710_1 ((Xa l0 0).f1).length c710_1, .slice A710_2 ((Xa l0 0).f2).length c710_2, .slice A710_3 ((Xa l0 0).f3).length c710_3] 30 (0, 0)) (zk BK711.out) hg (bk HO_8.out BK711.out J14)); replace HL754_1 := zq (aN (ok := (fun k_ => (w.heap.size ≤ k_) ∧ some k_ ≠ (.slice (some ad745) t715.length co51 : Value).ownBlock ∧ some k_ ≠ (v750 : Value).ownBlock ∧ some k_ ≠ (u9 : Value).ownBlock ∧ some k_ ≠ (.slice (some ad754) t746.length co54 : Value).ownBlock ∧ k_ ≠ gb711)) J65 hg hat); replace HL754_2 := zq (aN (ok := (fun k_ => (w.heap.size ≤ k_) ∧ some k_ ≠ (.slice (some ad745) t715.length co51 : Value).ownBlock ∧ some k_ ≠ (v750 : Value).ownBlock ∧ some k_ ≠ (u9 : Value).ownBlock ∧ some k_ ≠ (.slice (some ad754) t746.length co54 : Value).ownBlock ∧ k_ ≠ gb711)) J66 hg hat); replace HL754_3 := zq (aN (ok := (fun k_ => (w.heap.size ≤ k_) ∧ some k_ ≠ (.slice (some ad745) t715.length co51 : Value).ownBlock ∧ some k_ ≠ (v750 : Value).ownBlock ∧ some k_ ≠ (u9 : Value).ownBlock ∧ some k_ ≠ (.slice (some ad754) t746.length co54 : Value).ownBlock ∧ k_ ≠ gb711)) J67 hg hat); replace HB := zq (hb); have HO757 := zq (ho); clear HO_8; clear ho hb hg hat; have p758 : 0 ≤ (0 : Int) := J29; have q758 : 0 < (t746.length : Int) := of_decide_eq_true J2; obtain ⟨ad758, A758_1, c758_1, A758_2, c758_2, A758_3, c758_3, e758, hx758_0, hx758_1, hx758_2, hx758_3, hl758_1, hi758_1, hl758_2, hi758_2, hl758_3, hi758_3⟩ := Xb4 (ar HO_11.out).2.2 0 p758 q758; obtain rfl : ad754 = ad758 := (by injection e758); obtain ⟨ce758, hce758, hMe758, hcc758⟩ := bM HO_11.out z30 0 p758 J105; obtain ⟨ua758_1, uc758_1, ua758_2, uc758_2, ua758_3, uc758_3, rfl, ul758_1, ge758_1, ul758_2, ge758_2, ul758_3, ge758_3⟩ := Xca hMe758; have hv758_1 := hcc758 1 _ rfl; rw [Xa1 _ _ 1 J29] at hv758_1; replace hv758_1 := Option.some.inj (hv758_1.symm.trans hx758_1); injection hv758_1 with hva_ hvn_ hvc_; rw [hva_] at ge758_1; rw [hvc_] at ul758_1; have HL758_1 := zq (show Kd.V (Kd.int .i64) 3 _ w.heap.size _ _ ((Xa t746 0).f1) from be ul758_1 ge758_1); clear hva_ hvn_ hvc_ ge758_1 ul758_1; have hv758_2 := hcc758 2 _ rfl; rw [Xa1 _ _ 2 J29] at hv758_2; replace hv758_2 := Option.some.inj (hv758_2.symm.trans hx758_2); injection hv758_2 with hva_ hvn_ hvc_; rw [hva_] at ge758_2; rw [hvc_] at ul758_2; have HL758_2 := zq (show Kd.V (Kd.int .i64) 3 _ w.heap.size _ _ ((Xa t746 0).f2) from be ul758_2 ge758_2); clear hva_ hvn_ hvc_ ge758_2 ul758_2; have hv758_3 := hcc758 3 _ rfl; rw [Xa1 _ _ 3 J29] at hv758_3; replace hv758_3 := Option.some.inj (hv758_3.symm.trans hx758_3); injection hv758_3 with hva_ hvn_ hvc_; rw [hva_] at ge758_3; rw [hvc_] at ul758_3; have HL758_3 := zq (show Kd.V k38 38 _ w.heap.size _ _ ((Xa t746 0).f3) from be ul758_3 ge758_3); clear hva_ hvn_ hvc_ ge758_3 ul758_3; clear hcc758 hce758; have qi758 : (0 < t746.length) = True := eq_true J29; (try rw [show ((0 : Int)).toNat = 0 from rfl] at hx758_0); (try rw [show 0 * 4 = 0 from rfl] at hx758_0); (try rw [Addr.add_zero'] at hx758_0); (try rw [show ((0 : Int)).toNat = 0 from rfl] at hx758_1); (try rw [show 0 * 4 = 0 from rfl] at hx758_1); (try rw [Addr.add_zero'] at hx758_1); (try rw [show ((0 : Int)).toNat = 0 from rfl] at hx758_2); (try rw [show 0 * 4 = 0 from rfl] at hx758_2); (try rw [Addr.add_zero'] at hx758_2); (try rw [show ((0 : Int)).toNat = 0 from rfl] at hx758_3); (try rw [show 0 * 4 = 0 from rfl] at hx758_3); (try rw [Addr.add_zero'] at hx758_3); have HR758_1 := zq hi758_1; have HC758_1 := zq hl758_1; clear hi758_1 hl758_1; have HR758_2 := zq hi758_2; have HC758_2 := zq hl758_2; clear hi758_2 hl758_2; have HR758_3 := zq hi758_3; have HC758_3 := zq hl758_3; clear hi758_3 hl758_3; replace p758 := eq_true p758; replace q758 := eq_true q758))
             go_roundg kj49
             case measure => have := HJ8.out; have := HK2.out; have := HJ49.out; omega
             case rel => exact ⟨(y749), (y755), (x9_2), (wrap64 (x10_2 + 1)), J4, H', ⟨J91⟩, ⟨J89⟩, ⟨J92⟩, ⟨J101⟩, ⟨J47⟩, ⟨J25⟩, ⟨J11⟩⟩
            ·refine yv H ?_; clear H; rintro t762 A65 H
             refine yu H ?_ ?_ <;> clear H <;> rintro c66 H
             ·have LMc66 := zq c66
              clear c66
              obtain ⟨y765, hy765⟩ : ∃ y_ : List (S38), y_ = (x9_2 ++ t762) := ⟨_, rfl⟩
              replace H : (deckleref11_form.l0 kj49 t715 y749 y755 y765 (wrap64 (x10_2 + 1)) ((Xa l0 0).f0) ((Xa l0 0).f1) ((Xa l0 0).f2) ((Xa l0 0).f3)) = some r := by first | (rw [hy765]; with_reducible exact H) | (have H2_ := (Option.bind_some _ _).symm.trans H; rw [hy765]; with_reducible exact H2_) | (have H2_ := (Option.bind_some _ _).symm.trans H; with_reducible exact H2_) | with_reducible exact H | (rw [hy765]; exact H) | exact H
              have Ny765 := zq hy765
              clear hy765
              have H' := zq H
              clear H
              obtain ⟨ad754, A754_1, c754_1, A754_2, c754_2, A754_3, c754_3, e754, hx754_0, hx754_1, hx754_2, hx754_3, HL754_1, HL754_2, HL754_3, HR754_1, HC754_1, HR754_2, HC754_2, HR754_3, HC754_3, p754, q754, qi754⟩ := rdN0 HO_11.out w.heap.size
              cases e754
              go_wp2_with (first | ((with_reducible refine Xa0 (b := .append) (xs := #[.tmp 75, .tmp 79]) rfl ?_); (try (refine Xw J63 ?_; dsimp only)); at_builtin; refine aI (Kd.int .i64) (w0 := w) w.heap.size rfl (.tmp 75) (.tmp 79) 23 3 (.int .i64 0) 8 rfl Try.underlying23 Xcm rfl J14 J29 u8 x8_2 ((Xa t746 0).f2) _ _ _ (fun k_ => (w.heap.size ≤ k_)) (fun _ => False) rfl rfl ?aO ?aR (fun _ _ h => h) (fun _ h => h.elim) ?aF ?aB ?aS ?aL ?_; (case aR => repeat (first | exact J61 | (with_reducible refine Kd.C_alloc ?_ _) | (with_reducible refine au ?_ _) | (with_reducible refine Kd.C_drew ?_))); (case aB => exact (zs1 GE711.out)); (case aF => exact (fun k_ hk => (Nat.le_trans (Xc (zs1 GE711.out)) hk))); (case aO => exact (zr HO_8.out)); (case aS => exact (Xc (zs1 GE711.out))); (case aL => have := LMc59.out; omega); intro v756 w67 ho hb hg hat; rw [← Ny755.out] at ho; replace HO_4 := zq (aQ (ok := (fun k_ => (w.heap.size ≤ k_) ∧ some k_ ≠ (v750 : Value).ownBlock ∧ some k_ ≠ (u9 : Value).ownBlock ∧ some k_ ≠ (.slice (some ad754) t746.length co54 : Value).ownBlock ∧ k_ ≠ gb711)) J51 hg hat); replace HO_7 := zq (aQ (ok := (fun k_ => (w.heap.size ≤ k_) ∧ some k_ ≠ (.slice (some ad745) t715.length co51 : Value).ownBlock ∧ some k_ ≠ (u9 : Value).ownBlock ∧ k_ ≠ gb711)) J55 hg hat); replace HO_9 := zq (a9 (zr HO_9.out) (aK (zr HO_8.out)) J14 hg); replace HO_11 := zq (aQ (ok := (fun k_ => (w.heap.size ≤ k_) ∧ some k_ ≠ (.slice (some ad745) t715.length co51 : Value).ownBlock ∧ some k_ ≠ (v750 : Value).ownBlock ∧ some k_ ≠ (u9 : Value).ownBlock ∧ k_ ≠ gb711)) J49 hg hat); replace BK711 := zq (Xa9 (g := gb711) (o := .cells #[.int .i64 ((Xa l0 0).f0), .slice A710_1 ((Xa l0 0).f1).length c710_1, .slice A710_2 ((Xa l0 0).f2).length c710_2, .slice A710_3 ((Xa l0 0).f3).length c710_3] 30 (0, 0)) (zk BK711.out) hg (bk HO_8.out BK711.out J14)); replace HL754_1 := zq (aN (ok := (fun k_ => (w.heap.size ≤ k_) ∧ some k_ ≠ (.slice (some ad745) t715.length co51 : Value).ownBlock ∧ some k_ ≠ (v750 : Value).ownBlock ∧ some k_ ≠ (u9 : Value).ownBlock ∧ some k_ ≠ (.slice (some ad754) t746.length co54 : Value).ownBlock ∧ k_ ≠ gb711)) J65 hg hat); replace HL754_2 := zq (aN (ok := (fun k_ => (w.heap.size ≤ k_) ∧ some k_ ≠ (.slice (some ad745) t715.length co51 : Value).ownBlock ∧ some k_ ≠ (v750 : Value).ownBlock ∧ some k_ ≠ (u9 : Value).ownBlock ∧ some k_ ≠ (.slice (some ad754) t746.length co54 : Value).ownBlock ∧ k_ ≠ gb711)) J66 hg hat); replace HL754_3 := zq (aN (ok := (fun k_ => (w.heap.size ≤ k_) ∧ some k_ ≠ (.slice (some ad745) t715.length co51 : Value).ownBlock ∧ some k_ ≠ (v750 : Value).ownBlock ∧ some k_ ≠ (u9 : Value).ownBlock ∧ some k_ ≠ (.slice (some ad754) t746.length co54 : Value).ownBlock ∧ k_ ≠ gb711)) J67 hg hat); replace HB := zq (hb); have HO757 := zq (ho); clear HO_8; clear ho hb hg hat; have p758 : 0 ≤ (0 : Int) := J29; have q758 : 0 < (t746.length : Int) := of_decide_eq_true J2; obtain ⟨ad758, A758_1, c758_1, A758_2, c758_2, A758_3, c758_3, e758, hx758_0, hx758_1, hx758_2, hx758_3, hl758_1, hi758_1, hl758_2, hi758_2, hl758_3, hi758_3⟩ := Xb4 (ar HO_11.out).2.2 0 p758 q758; obtain rfl : ad754 = ad758 := (by injection e758); obtain ⟨ce758, hce758, hMe758, hcc758⟩ := bM HO_11.out z30 0 p758 J105; obtain ⟨ua758_1, uc758_1, ua758_2, uc758_2, ua758_3, uc758_3, rfl, ul758_1, ge758_1, ul758_2, ge758_2, ul758_3, ge758_3⟩ := Xca hMe758; have hv758_1 := hcc758 1 _ rfl; rw [Xa1 _ _ 1 J29] at hv758_1; replace hv758_1 := Option.some.inj (hv758_1.symm.trans hx758_1); injection hv758_1 with hva_ hvn_ hvc_; rw [hva_] at ge758_1; rw [hvc_] at ul758_1; have HL758_1 := zq (show Kd.V (Kd.int .i64) 3 _ w.heap.size _ _ ((Xa t746 0).f1) from be ul758_1 ge758_1); clear hva_ hvn_ hvc_ ge758_1 ul758_1; have hv758_2 := hcc758 2 _ rfl; rw [Xa1 _ _ 2 J29] at hv758_2; replace hv758_2 := Option.some.inj (hv758_2.symm.trans hx758_2); injection hv758_2 with hva_ hvn_ hvc_; rw [hva_] at ge758_2; rw [hvc_] at ul758_2; have HL758_2 := zq (show Kd.V (Kd.int .i64) 3 _ w.heap.size _ _ ((Xa t746 0).f2) from be ul758_2 ge758_2); clear hva_ hvn_ hvc_ ge758_2 ul758_2; have hv758_3 := hcc758 3 _ rfl; rw [Xa1 _ _ 3 J29] at hv758_3; replace hv758_3 := Option.some.inj (hv758_3.symm.trans hx758_3); injection hv758_3 with hva_ hvn_ hvc_; rw [hva_] at ge758_3; rw [hvc_] at ul758_3; have HL758_3 := zq (show Kd.V k38 38 _ w.heap.size _ _ ((Xa t746 0).f3) from be ul758_3 ge758_3); clear hva_ hvn_ hvc_ ge758_3 ul758_3; clear hcc758 hce758; have qi758 : (0 < t746.length) = True := eq_true J29; (try rw [show ((0 : Int)).toNat = 0 from rfl] at hx758_0); (try rw [show 0 * 4 = 0 from rfl] at hx758_0); (try rw [Addr.add_zero'] at hx758_0); (try rw [show ((0 : Int)).toNat = 0 from rfl] at hx758_1); (try rw [show 0 * 4 = 0 from rfl] at hx758_1); (try rw [Addr.add_zero'] at hx758_1); (try rw [show ((0 : Int)).toNat = 0 from rfl] at hx758_2); (try rw [show 0 * 4 = 0 from rfl] at hx758_2); (try rw [Addr.add_zero'] at hx758_2); (try rw [show ((0 : Int)).toNat = 0 from rfl] at hx758_3); (try rw [show 0 * 4 = 0 from rfl] at hx758_3); (try rw [Addr.add_zero'] at hx758_3); have HR758_1 := zq hi758_1; have HC758_1 := zq hl758_1; clear hi758_1 hl758_1; have HR758_2 := zq hi758_2; have HC758_2 := zq hl758_2; clear hi758_2 hl758_2; have HR758_3 := zq hi758_3; have HC758_3 := zq hl758_3; clear hi758_3 hl758_3; replace p758 := eq_true p758; replace q758 := eq_true q758; have p761 : 0 ≤ (0 : Int) := J29; have q761 : 0 < (t746.length : Int) := of_decide_eq_true J2; obtain ⟨ad761, A761_1, c761_1, A761_2, c761_2, A761_3, c761_3, e761, hx761_0, hx761_1, hx761_2, hx761_3, hl761_1, hi761_1, hl761_2, hi761_2, hl761_3, hi761_3⟩ := Xb4 (ar HO_11.out).2.2 0 p761 q761; obtain rfl : ad754 = ad761 := (by injection e761); obtain ⟨ce761, hce761, hMe761, hcc761⟩ := bM HO_11.out z30 0 p761 (by first | exact q761 | exact of_decide_eq_true J2 | (have e_ := (ar HO_11.out).1; omega)); obtain ⟨ua761_1, uc761_1, ua761_2, uc761_2, ua761_3, uc761_3, rfl, ul761_1, ge761_1, ul761_2, ge761_2, ul761_3, ge761_3⟩ := Xca hMe761; have hv761_1 := hcc761 1 _ rfl; rw [Xa1 _ _ 1 J29] at hv761_1; replace hv761_1 := Option.some.inj (hv761_1.symm.trans hx761_1); injection hv761_1 with hva_ hvn_ hvc_; rw [hva_] at ge761_1; rw [hvc_] at ul761_1; have HL761_1 := zq (show Kd.V (Kd.int .i64) 3 _ w.heap.size _ _ ((Xa t746 0).f1) from be ul761_1 ge761_1); clear hva_ hvn_ hvc_ ge761_1 ul761_1; have hv761_2 := hcc761 2 _ rfl; rw [Xa1 _ _ 2 J29] at hv761_2; replace hv761_2 := Option.some.inj (hv761_2.symm.trans hx761_2); injection hv761_2 with hva_ hvn_ hvc_; rw [hva_] at ge761_2; rw [hvc_] at ul761_2; have HL761_2 := zq (show Kd.V (Kd.int .i64) 3 _ w.heap.size _ _ ((Xa t746 0).f2) from be ul761_2 ge761_2); clear hva_ hvn_ hvc_ ge761_2 ul761_2; have hv761_3 := hcc761 3 _ rfl; rw [Xa1 _ _ 3 J29] at hv761_3; replace hv761_3 := Option.some.inj (hv761_3.symm.trans hx761_3); injection hv761_3 with hva_ hvn_ hvc_; rw [hva_] at ge761_3; rw [hvc_] at ul761_3; have HL761_3 := zq (show Kd.V k38 38 _ w.heap.size _ _ ((Xa t746 0).f3) from be ul761_3 ge761_3); clear hva_ hvn_ hvc_ ge761_3 ul761_3; clear hcc761 hce761; have qi761 : (0 < t746.length) = True := eq_true J29; (try rw [show ((0 : Int)).toNat = 0 from rfl] at hx761_0); (try rw [show 0 * 4 = 0 from rfl] at hx761_0); (try rw [Addr.add_zero'] at hx761_0); (try rw [show ((0 : Int)).toNat = 0 from rfl] at hx761_1); (try rw [show 0 * 4 = 0 from rfl] at hx761_1); (try rw [Addr.add_zero'] at hx761_1); (try rw [show ((0 : Int)).toNat = 0 from rfl] at hx761_2); (try rw [show 0 * 4 = 0 from rfl] at hx761_2); (try rw [Addr.add_zero'] at hx761_2); (try rw [show ((0 : Int)).toNat = 0 from rfl] at hx761_3); (try rw [show 0 * 4 = 0 from rfl] at hx761_3); (try rw [Addr.add_zero'] at hx761_3); have HR761_1 := zq hi761_1; have HC761_1 := zq hl761_1; clear hi761_1 hl761_1; have HR761_2 := zq hi761_2; have HC761_2 := zq hl761_2; clear hi761_2 hl761_2; have HR761_3 := zq hi761_3; have HC761_3 := zq hl761_3; clear hi761_3 hl761_3; replace p761 := eq_true p761; replace q761 := eq_true q761; have ea_ := Option.some.inj (hx758_1.symm.trans hx761_1); injection ea_ with ea_ en_ ec_; subst ea_; subst ec_; clear en_; have ea_ := Option.some.inj (hx758_2.symm.trans hx761_2); injection ea_ with ea_ en_ ec_; subst ea_; subst ec_; clear en_; have ea_ := Option.some.inj (hx758_3.symm.trans hx761_3); injection ea_ with ea_ en_ ec_; subst ea_; subst ec_; clear en_) | ((with_reducible refine Xi (f := 54) rfl ?_); refine Xbz (some 105) rfl rfl Try.func54 J17 rfl #[.agg #[.int .i64 ((Xa t746 0).f0), .slice A758_1 ((Xa t746 0).f1).length c758_1, .slice A758_2 ((Xa t746 0).f2).length c758_2, .slice A758_3 ((Xa t746 0).f3).length c758_3]] rfl J3 ?_; (with_reducible refine (Xaj.calls kj49 ((Xa t746 0).f0) _ _ ((Xa t746 0).f1) _ _ ((Xa t746 0).f2) _ _ ((Xa t746 0).f3) t762 _ ?side1 ?side2 ?side3 ?side4 ?side5 ?side6 A65.out).mono ?_); (case side1 => repeat (first | exact (by repeat (first | (with_reducible exact HR761_1.out) | (with_reducible refine Kd.C_alloc ?_ _) | (with_reducible refine au ?_ _) | (with_reducible refine Kd.C_drew ?_) | exact HR761_1.out)) | (with_reducible refine Kd.C_alloc ?_ _) | (with_reducible refine au ?_ _) | (with_reducible refine Kd.C_drew ?_))); (case side2 => exact HC761_1.out); (case side3 => repeat (first | exact (by repeat (first | (with_reducible exact HR761_2.out) | (with_reducible refine Kd.C_alloc ?_ _) | (with_reducible refine au ?_ _) | (with_reducible refine Kd.C_drew ?_) | exact HR761_2.out)) | (with_reducible refine Kd.C_alloc ?_ _) | (with_reducible refine au ?_ _) | (with_reducible refine Kd.C_drew ?_))); (case side4 => exact HC761_2.out); (case side5 => repeat (first | exact (by repeat (first | (with_reducible exact HR761_3.out) | (with_reducible refine Kd.C_alloc ?_ _) | (with_reducible refine au ?_ _) | (with_reducible refine Kd.C_drew ?_) | exact HR761_3.out)) | (with_reducible refine Kd.C_alloc ?_ _) | (with_reducible refine au ?_ _) | (with_reducible refine Kd.C_drew ?_))); (case side6 => exact HC761_3.out); rintro e w68 ⟨v763, rfl, ho0, hb⟩; refine ⟨_, rfl, ?_⟩; replace HO_4 := zq (ae (zn HO_4.out) (aa ho0) hb); replace HO_7 := zq (ae (zn HO_7.out) (aa ho0) hb); replace HO_11 := zq (ae (zn HO_11.out) (aa ho0) hb); replace HL754_1 := zq (am (zv HL754_1.out) (aa ho0) hb); replace HL754_2 := zq (am (zv HL754_2.out) (aa ho0) hb); replace HL754_3 := zq (am (zv HL754_3.out) (aa ho0) hb); replace HO757 := zq (ab (zr HO757.out) hb); replace HL758_1 := zq (am (zv HL758_1.out) (aa ho0) hb); replace HL758_2 := zq (am (zv HL758_2.out) (aa ho0) hb); replace HL758_3 := zq (am (zv HL758_3.out) (aa ho0) hb); have HO764 := zq (ag (aW (aT (M := fun k_ => (w.heap.size ≤ k_)) ho0 (Xc (zs1 GE711.out)) (fun k_ h_ => h_)) (aY (zr HO_9.out))) (Xc (zs1 GE711.out))); replace HO_9 := zq (ay (zr HO_9.out) (aa ho0) hb); replace BK711 := zq (Xg (zk BK711.out) hb); replace HR758_1 := zq (ac (by repeat (first | (with_reducible exact HR758_1.out) | (with_reducible refine Kd.C_alloc ?_ _) | (with_reducible refine au ?_ _) | (with_reducible refine Kd.C_drew ?_) | exact HR758_1.out)) hb); replace HR758_2 := zq (ac (by repeat (first | (with_reducible exact HR758_2.out) | (with_reducible refine Kd.C_alloc ?_ _) | (with_reducible refine au ?_ _) | (with_reducible refine Kd.C_drew ?_) | exact HR758_2.out)) hb); replace HR758_3 := zq (ac (by repeat (first | (with_reducible exact HR758_3.out) | (with_reducible refine Kd.C_alloc ?_ _) | (with_reducible refine au ?_ _) | (with_reducible refine Kd.C_drew ?_) | exact HR758_3.out)) hb); replace HB := zq (Xe (zs1 GE711.out) hb); (try clear hb); (try clear hk); (try clear ho0); obtain ⟨Ao70, co70, eo70⟩ := ah HO764.out; subst eo70) | ((with_reducible refine Xa0 (b := .append) (xs := #[.tmp 101, .tmp 105]) rfl ?_); (try (refine Xw J63 ?_; dsimp only)); at_builtin; refine aI k38 (w0 := w) w.heap.size rfl (.tmp 101) (.tmp 105) 24 38 (.agg #[(.int .i64 0), (.int .i64 0)]) 16 rfl Try.underlying24 Xdo rfl J14 J29 u9 x9_2 t762 _ _ _ (fun k_ => (w.heap.size ≤ k_) ∧ some k_ ≠ (.slice Ao70 t762.length co70 : Value).ownBlock) (fun _ => False) rfl rfl ?aO ?aR (fun _ _ h => h) (fun _ h => h.elim) ?aF ?aB ?aS ?aL ?_; (case aR => repeat (first | exact (an HO764.out).2.2 | (with_reducible refine Kd.C_alloc ?_ _) | (with_reducible refine au ?_ _) | (with_reducible refine Kd.C_drew ?_))); (case aB => exact (zs1 GE711.out)); (case aF => exact (fun k_ hk => ⟨(Nat.le_trans (Xc (zs1 GE711.out)) hk), Kd.fresh' (aY (zr HO764.out)) k_ hk⟩)); (case aO => exact (zr HO_9.out)); (case aS => exact (Xc (zs1 GE711.out))); (case aL => have := LMc66.out; omega); intro v766 w69 ho hb hg hat; rw [← Ny765.out] at ho; replace HO_4 := zq (aQ (ok := (fun k_ => (w.heap.size ≤ k_) ∧ some k_ ≠ (v750 : Value).ownBlock ∧ some k_ ≠ (.slice (some ad754) t746.length co54 : Value).ownBlock ∧ some k_ ≠ (v756 : Value).ownBlock ∧ some k_ ≠ (.slice Ao70 t762.length co70 : Value).ownBlock ∧ k_ ≠ gb711)) (by (with_reducible repeat (first | apply Kd.N_alloc | apply Kd.N_drewN | apply aC)); exact ap HO_4.out (fun _ hk => ⟨⟨hk.1.1.1, ⟨hk.1.1.2.1, ⟨hk.1.1.2.2.2.1, ⟨hk.1.2, ⟨hk.2, hk.1.1.2.2.2.2⟩⟩⟩⟩⟩, hk.1.1.2.2.1⟩)) hg hat); replace HO_7 := zq (aQ (ok := (fun k_ => (w.heap.size ≤ k_) ∧ some k_ ≠ (.slice (some ad745) t715.length co51 : Value).ownBlock ∧ some k_ ≠ (v756 : Value).ownBlock ∧ some k_ ≠ (.slice Ao70 t762.length co70 : Value).ownBlock ∧ k_ ≠ gb711)) (by (with_reducible repeat (first | apply Kd.N_alloc | apply Kd.N_drewN | apply aC)); exact ap HO_7.out (fun _ hk => ⟨⟨hk.1.1.1, ⟨hk.1.1.2.1, ⟨hk.1.2, ⟨hk.2, hk.1.1.2.2.2⟩⟩⟩⟩, hk.1.1.2.2.1⟩)) hg hat); replace HO_11 := zq (aQ (ok := (fun k_ => (w.heap.size ≤ k_) ∧ some k_ ≠ (.slice (some ad745) t715.length co51 : Value).ownBlock ∧ some k_ ≠ (v750 : Value).ownBlock ∧ some k_ ≠ (v756 : Value).ownBlock ∧ some k_ ≠ (.slice Ao70 t762.length co70 : Value).ownBlock ∧ k_ ≠ gb711)) (by (with_reducible repeat (first | apply Kd.N_alloc | apply Kd.N_drewN | apply aC)); exact ap HO_11.out (fun _ hk => ⟨⟨hk.1.1.1, ⟨hk.1.1.2.1, ⟨hk.1.1.2.2.1, ⟨hk.1.2, ⟨hk.2, hk.1.1.2.2.2.2⟩⟩⟩⟩⟩, hk.1.1.2.2.2.1⟩)) hg hat); replace BK711 := zq (Xa9 (g := gb711) (o := .cells #[.int .i64 ((Xa l0 0).f0), .slice A710_1 ((Xa l0 0).f1).length c710_1, .slice A710_2 ((Xa l0 0).f2).length c710_2, .slice A710_3 ((Xa l0 0).f3).length c710_3] 30 (0, 0)) (zk BK711.out) hg (bk HO_9.out BK711.out J14)); replace HL754_1 := zq (aN (ok := (fun k_ => (w.heap.size ≤ k_) ∧ some k_ ≠ (.slice (some ad745) t715.length co51 : Value).ownBlock ∧ some k_ ≠ (v750 : Value).ownBlock ∧ some k_ ≠ (.slice (some ad754) t746.length co54 : Value).ownBlock ∧ some k_ ≠ (v756 : Value).ownBlock ∧ some k_ ≠ (.slice Ao70 t762.length co70 : Value).ownBlock ∧ k_ ≠ gb711)) (by (with_reducible repeat (first | apply Kd.V_alloc | apply Kd.V_drewN | apply aA)); exact aj HL754_1.out (fun _ hk => ⟨⟨hk.1.1.1, ⟨hk.1.1.2.1, ⟨hk.1.1.2.2.1, ⟨hk.1.1.2.2.2.2.1, ⟨hk.1.2, ⟨hk.2, hk.1.1.2.2.2.2.2⟩⟩⟩⟩⟩⟩, hk.1.1.2.2.2.1⟩)) hg hat); replace HL754_2 := zq (aN (ok := (fun k_ => (w.heap.size ≤ k_) ∧ some k_ ≠ (.slice (some ad745) t715.length co51 : Value).ownBlock ∧ some k_ ≠ (v750 : Value).ownBlock ∧ some k_ ≠ (.slice (some ad754) t746.length co54 : Value).ownBlock ∧ some k_ ≠ (v756 : Value).ownBlock ∧ some k_ ≠ (.slice Ao70 t762.length co70 : Value).ownBlock ∧ k_ ≠ gb711)) (by (with_reducible repeat (first | apply Kd.V_alloc | apply Kd.V_drewN | apply aA)); exact aj HL754_2.out (fun _ hk => ⟨⟨hk.1.1.1, ⟨hk.1.1.2.1, ⟨hk.1.1.2.2.1, ⟨hk.1.1.2.2.2.2.1, ⟨hk.1.2, ⟨hk.2, hk.1.1.2.2.2.2.2⟩⟩⟩⟩⟩⟩, hk.1.1.2.2.2.1⟩)) hg hat); replace HL754_3 := zq (aN (ok := (fun k_ => (w.heap.size ≤ k_) ∧ some k_ ≠ (.slice (some ad745) t715.length co51 : Value).ownBlock ∧ some k_ ≠ (v750 : Value).ownBlock ∧ some k_ ≠ (.slice (some ad754) t746.length co54 : Value).ownBlock ∧ some k_ ≠ (v756 : Value).ownBlock ∧ some k_ ≠ (.slice Ao70 t762.length co70 : Value).ownBlock ∧ k_ ≠ gb711)) (by (with_reducible repeat (first | apply Kd.V_alloc | apply Kd.V_drewN | apply aA)); exact aj HL754_3.out (fun _ hk => ⟨⟨hk.1.1.1, ⟨hk.1.1.2.1, ⟨hk.1.1.2.2.1, ⟨hk.1.1.2.2.2.2.1, ⟨hk.1.2, ⟨hk.2, hk.1.1.2.2.2.2.2⟩⟩⟩⟩⟩⟩, hk.1.1.2.2.2.1⟩)) hg hat); replace HO757 := zq (a9 (zr HO757.out) (aK (zr HO_9.out)) J14 hg); replace HL758_1 := zq (aN (ok := (fun k_ => (w.heap.size ≤ k_) ∧ some k_ ≠ (.slice (some ad745) t715.length co51 : Value).ownBlock ∧ some k_ ≠ (v750 : Value).ownBlock ∧ some k_ ≠ (.slice (some ad754) t746.length co54 : Value).ownBlock ∧ some k_ ≠ (v756 : Value).ownBlock ∧ some k_ ≠ (.slice Ao70 t762.length co70 : Value).ownBlock ∧ k_ ≠ gb711)) (by (with_reducible repeat (first | apply Kd.V_alloc | apply Kd.V_drewN | apply aA)); exact aj HL758_1.out (fun _ hk => ⟨⟨hk.1.1.1.1, ⟨hk.1.1.1.2.1, ⟨hk.1.1.1.2.2.1, ⟨hk.1.2, ⟨hk.1.1.2, ⟨hk.2, hk.1.1.1.2.2.2.2⟩⟩⟩⟩⟩⟩, hk.1.1.1.2.2.2.1⟩)) hg hat); replace HL758_2 := zq (aN (ok := (fun k_ => (w.heap.size ≤ k_) ∧ some k_ ≠ (.slice (some ad745) t715.length co51 : Value).ownBlock ∧ some k_ ≠ (v750 : Value).ownBlock ∧ some k_ ≠ (.slice (some ad754) t746.length co54 : Value).ownBlock ∧ some k_ ≠ (v756 : Value).ownBlock ∧ some k_ ≠ (.slice Ao70 t762.length co70 : Value).ownBlock ∧ k_ ≠ gb711)) (by (with_reducible repeat (first | apply Kd.V_alloc | apply Kd.V_drewN | apply aA)); exact aj HL758_2.out (fun _ hk => ⟨⟨hk.1.1.1.1, ⟨hk.1.1.1.2.1, ⟨hk.1.1.1.2.2.1, ⟨hk.1.2, ⟨hk.1.1.2, ⟨hk.2, hk.1.1.1.2.2.2.2⟩⟩⟩⟩⟩⟩, hk.1.1.1.2.2.2.1⟩)) hg hat); replace HL758_3 := zq (aN (ok := (fun k_ => (w.heap.size ≤ k_) ∧ some k_ ≠ (.slice (some ad745) t715.length co51 : Value).ownBlock ∧ some k_ ≠ (v750 : Value).ownBlock ∧ some k_ ≠ (.slice (some ad754) t746.length co54 : Value).ownBlock ∧ some k_ ≠ (v756 : Value).ownBlock ∧ some k_ ≠ (.slice Ao70 t762.length co70 : Value).ownBlock ∧ k_ ≠ gb711)) (by (with_reducible repeat (first | apply Kd.V_alloc | apply Kd.V_drewN | apply aA)); exact aj HL758_3.out (fun _ hk => ⟨⟨hk.1.1.1.1, ⟨hk.1.1.1.2.1, ⟨hk.1.1.1.2.2.1, ⟨hk.1.2, ⟨hk.1.1.2, ⟨hk.2, hk.1.1.1.2.2.2.2⟩⟩⟩⟩⟩⟩, hk.1.1.1.2.2.2.1⟩)) hg hat); replace HB := zq (hb); have HO767 := zq (ho); clear HO_9; clear ho hb hg hat))
              go_roundg kj49
              case measure => have := HJ8.out; have := HK2.out; have := HJ49.out; omega
              case rel => exact ⟨(y749), (y755), (y765), (wrap64 (x10_2 + 1)), J4, H', ⟨J91⟩, ⟨by (with_reducible repeat (first | apply Kd.N_alloc | apply Kd.N_drewN | apply aC)); exact ap HO_4.out (fun _ hk => ⟨hk.1.1, ⟨hk.1.2.1, ⟨hk.1.2.2.2.1, ⟨hk.2, hk.1.2.2.2.2.2⟩⟩⟩⟩)⟩, ⟨J124⟩, ⟨J101⟩, ⟨by (with_reducible repeat (first | apply Kd.R_alloc | apply ai | apply ak)); exact af HO767.out (fun _ hk => hk.1)⟩, ⟨J25⟩, ⟨J11⟩⟩
             ·exact absurd H J83
          ·have c60b2 : ¬ (((Xa t746 0).f1) = []) := fun h_ => c60 (by rw [h_]; rfl)
           have H' := zq H
           clear H
           obtain ⟨ad754, A754_1, c754_1, A754_2, c754_2, A754_3, c754_3, e754, hx754_0, hx754_1, hx754_2, hx754_3, HL754_1, HL754_2, HL754_3, HR754_1, HC754_1, HR754_2, HC754_2, HR754_3, HC754_3, p754, q754, qi754⟩ := rdN0 HO_11.out w.heap.size
           cases e754
           go_wp2_with (first | ((with_reducible refine Xa0 (b := .append) (xs := #[.tmp 75, .tmp 79]) rfl ?_); (try (refine Xw J63 ?_; dsimp only)); at_builtin; refine aI (Kd.int .i64) (w0 := w) w.heap.size rfl (.tmp 75) (.tmp 79) 23 3 (.int .i64 0) 8 rfl Try.underlying23 Xcm rfl J14 J29 u8 x8_2 ((Xa t746 0).f2) _ _ _ (fun k_ => (w.heap.size ≤ k_)) (fun _ => False) rfl rfl ?aO ?aR (fun _ _ h => h) (fun _ h => h.elim) ?aF ?aB ?aS ?aL ?_; (case aR => repeat (first | exact J61 | (with_reducible refine Kd.C_alloc ?_ _) | (with_reducible refine au ?_ _) | (with_reducible refine Kd.C_drew ?_))); (case aB => exact (zs1 GE711.out)); (case aF => exact (fun k_ hk => (Nat.le_trans (Xc (zs1 GE711.out)) hk))); (case aO => exact (zr HO_8.out)); (case aS => exact (Xc (zs1 GE711.out))); (case aL => have := LMc59.out; omega); intro v756 w71 ho hb hg hat; rw [← Ny755.out] at ho; replace HO_4 := zq (aQ (ok := (fun k_ => (w.heap.size ≤ k_) ∧ some k_ ≠ (v750 : Value).ownBlock ∧ some k_ ≠ (u9 : Value).ownBlock ∧ some k_ ≠ (.slice (some ad754) t746.length co54 : Value).ownBlock ∧ k_ ≠ gb711)) J51 hg hat); replace HO_7 := zq (aQ (ok := (fun k_ => (w.heap.size ≤ k_) ∧ some k_ ≠ (.slice (some ad745) t715.length co51 : Value).ownBlock ∧ some k_ ≠ (u9 : Value).ownBlock ∧ k_ ≠ gb711)) J55 hg hat); replace HO_9 := zq (a9 (zr HO_9.out) (aK (zr HO_8.out)) J14 hg); replace HO_11 := zq (aQ (ok := (fun k_ => (w.heap.size ≤ k_) ∧ some k_ ≠ (.slice (some ad745) t715.length co51 : Value).ownBlock ∧ some k_ ≠ (v750 : Value).ownBlock ∧ some k_ ≠ (u9 : Value).ownBlock ∧ k_ ≠ gb711)) J49 hg hat); replace BK711 := zq (Xa9 (g := gb711) (o := .cells #[.int .i64 ((Xa l0 0).f0), .slice A710_1 ((Xa l0 0).f1).length c710_1, .slice A710_2 ((Xa l0 0).f2).length c710_2, .slice A710_3 ((Xa l0 0).f3).length c710_3] 30 (0, 0)) (zk BK711.out) hg (bk HO_8.out BK711.out J14)); replace HB := zq (hb); have HO757 := zq (ho); clear HO_8; clear ho hb hg hat; have p758 : 0 ≤ (0 : Int) := J29; have q758 : 0 < (t746.length : Int) := of_decide_eq_true J2; obtain ⟨ad758, A758_1, c758_1, A758_2, c758_2, A758_3, c758_3, e758, hx758_0, hx758_1, hx758_2, hx758_3, hl758_1, hi758_1, hl758_2, hi758_2, hl758_3, hi758_3⟩ := Xb4 (ar HO_11.out).2.2 0 p758 q758; obtain rfl : ad754 = ad758 := (by injection e758); obtain ⟨ce758, hce758, hMe758, hcc758⟩ := bM HO_11.out z30 0 p758 J105; obtain ⟨ua758_1, uc758_1, ua758_2, uc758_2, ua758_3, uc758_3, rfl, ul758_1, ge758_1, ul758_2, ge758_2, ul758_3, ge758_3⟩ := Xca hMe758; have hv758_1 := hcc758 1 _ rfl; rw [Xa1 _ _ 1 J29] at hv758_1; replace hv758_1 := Option.some.inj (hv758_1.symm.trans hx758_1); injection hv758_1 with hva_ hvn_ hvc_; rw [hva_] at ge758_1; rw [hvc_] at ul758_1; have HL758_1 := zq (show Kd.V (Kd.int .i64) 3 _ w.heap.size _ _ ((Xa t746 0).f1) from be ul758_1 ge758_1); clear hva_ hvn_ hvc_ ge758_1 ul758_1; have hv758_2 := hcc758 2 _ rfl; rw [Xa1 _ _ 2 J29] at hv758_2; replace hv758_2 := Option.some.inj (hv758_2.symm.trans hx758_2); injection hv758_2 with hva_ hvn_ hvc_; rw [hva_] at ge758_2; rw [hvc_] at ul758_2; have HL758_2 := zq (show Kd.V (Kd.int .i64) 3 _ w.heap.size _ _ ((Xa t746 0).f2) from be ul758_2 ge758_2); clear hva_ hvn_ hvc_ ge758_2 ul758_2; have hv758_3 := hcc758 3 _ rfl; rw [Xa1 _ _ 3 J29] at hv758_3; replace hv758_3 := Option.some.inj (hv758_3.symm.trans hx758_3); injection hv758_3 with hva_ hvn_ hvc_; rw [hva_] at ge758_3; rw [hvc_] at ul758_3; have HL758_3 := zq (show Kd.V k38 38 _ w.heap.size _ _ ((Xa t746 0).f3) from be ul758_3 ge758_3); clear hva_ hvn_ hvc_ ge758_3 ul758_3; clear hcc758 hce758; have qi758 : (0 < t746.length) = True := eq_true J29; (try rw [show ((0 : Int)).toNat = 0 from rfl] at hx758_0); (try rw [show 0 * 4 = 0 from rfl] at hx758_0); (try rw [Addr.add_zero'] at hx758_0); (try rw [show ((0 : Int)).toNat = 0 from rfl] at hx758_1); (try rw [show 0 * 4 = 0 from rfl] at hx758_1); (try rw [Addr.add_zero'] at hx758_1); (try rw [show ((0 : Int)).toNat = 0 from rfl] at hx758_2); (try rw [show 0 * 4 = 0 from rfl] at hx758_2); (try rw [Addr.add_zero'] at hx758_2); (try rw [show ((0 : Int)).toNat = 0 from rfl] at hx758_3); (try rw [show 0 * 4 = 0 from rfl] at hx758_3); (try rw [Addr.add_zero'] at hx758_3); have HR758_1 := zq hi758_1; have HC758_1 := zq hl758_1; clear hi758_1 hl758_1; have HR758_2 := zq hi758_2; have HC758_2 := zq hl758_2; clear hi758_2 hl758_2; have HR758_3 := zq hi758_3; have HC758_3 := zq hl758_3; clear hi758_3 hl758_3; replace p758 := eq_true p758; replace q758 := eq_true q758))
           go_roundg kj49
           case measure => have := HJ8.out; have := HK2.out; have := HJ49.out; omega
           case rel => exact ⟨(y749), (y755), (x9_2), (wrap64 (x10_2 + 1)), J4, H', ⟨J91⟩, ⟨J89⟩, ⟨J92⟩, ⟨J101⟩, ⟨J47⟩, ⟨J25⟩, ⟨J11⟩⟩
         ·exact absurd H J83
        ·exact absurd H J83
       refine yi H ?_; clear H; intro c72 H
       have c72b0 := decide_eq_true c72
       have c72b1 : decide (0 < t746.length) = true := decide_eq_true J29
       clear c72
       refine yE H ?_ ?_ <;> clear H <;> rintro ⟨c73b0, c73b1, c73⟩ H
       ·have c73b2 : ¬ (((Xa t746 0).f1) = []) := fun h_ => c73 (by rw [h_]; rfl)
        have H' := zq H
        clear H
        obtain ⟨ad768, A768_1, c768_1, A768_2, c768_2, A768_3, c768_3, e768, hx768_0, hx768_1, hx768_2, hx768_3, HL768_1, HL768_2, HL768_3, HR768_1, HC768_1, HR768_2, HC768_2, HR768_3, HC768_3, p768, q768, qi768⟩ := rdN0 HO_11.out w.heap.size
        cases e768
        go_wp2
        go_roundg kj49
        case measure => have := HJ8.out; have := HK2.out; have := HJ49.out; omega
        case rel => exact ⟨(y749), (x8_2), (x9_2), (wrap64 (x10_2 + 1)), J4, H', ⟨J91⟩, ⟨J90⟩, ⟨J123⟩, ⟨J64⟩, ⟨J47⟩, ⟨J25⟩, ⟨J11⟩⟩
       clear c73
       refine yF H ?_ ?_ <;> clear H <;> rintro ⟨c74b0, c74b1, c74⟩ H
       ·clear c74
        have H' := zq H
        clear H
        obtain ⟨ad768, A768_1, c768_1, A768_2, c768_2, A768_3, c768_3, e768, hx768_0, hx768_1, hx768_2, hx768_3, HL768_1, HL768_2, HL768_3, HR768_1, HC768_1, HR768_2, HC768_2, HR768_3, HC768_3, p768, q768, qi768⟩ := rdN0 HO_11.out w.heap.size
        cases e768
        go_wp2
        go_roundg kj49
        case measure => have := HJ8.out; have := HK2.out; have := HJ49.out; omega
        case rel => exact ⟨(y749), (x8_2), (x9_2), (wrap64 (x10_2 + 1)), J4, H', ⟨J91⟩, ⟨J90⟩, ⟨J123⟩, ⟨J64⟩, ⟨J47⟩, ⟨J25⟩, ⟨J11⟩⟩
       refine yF H ?_ ?_ <;> clear H <;> rintro ⟨c75b0, c75b1, c75⟩ H
       ·clear c75
        have H' := zq H
        clear H
        obtain ⟨ad768, A768_1, c768_1, A768_2, c768_2, A768_3, c768_3, e768, hx768_0, hx768_1, hx768_2, hx768_3, HL768_1, HL768_2, HL768_3, HR768_1, HC768_1, HR768_2, HC768_2, HR768_3, HC768_3, p768, q768, qi768⟩ := rdN0 HO_11.out w.heap.size
        cases e768
        go_wp2
        go_roundg kj49
        case measure => have := HJ8.out; have := HK2.out; have := HJ49.out; omega
        case rel => exact ⟨(y749), (x8_2), (x9_2), (wrap64 (x10_2 + 1)), J4, H', ⟨J91⟩, ⟨J90⟩, ⟨J123⟩, ⟨J64⟩, ⟨J47⟩, ⟨J25⟩, ⟨J11⟩⟩
       refine yv H ?_; clear H; rintro t772 A76 H
       refine yi H ?_; clear H; intro c77 H
       have LMc77 := zq c77
       clear c77
       obtain ⟨y775, hy775⟩ : ∃ y_ : List (S38), y_ = (x9_2 ++ t772) := ⟨_, rfl⟩
       replace H : (deckleref11_form.l0 kj49 t715 y749 x8_2 y775 (wrap64 (x10_2 + 1)) ((Xa l0 0).f0) ((Xa l0 0).f1) ((Xa l0 0).f2) ((Xa l0 0).f3)) = some r := by first | (rw [hy775]; with_reducible exact H) | (have H2_ := (Option.bind_some _ _).symm.trans H; rw [hy775]; with_reducible exact H2_) | (have H2_ := (Option.bind_some _ _).symm.trans H; with_reducible exact H2_) | with_reducible exact H | (rw [hy775]; exact H) | exact H
       have Ny775 := zq hy775
       clear hy775
       have H' := zq H
       clear H
       obtain ⟨ad768, A768_1, c768_1, A768_2, c768_2, A768_3, c768_3, e768, hx768_0, hx768_1, hx768_2, hx768_3, HL768_1, HL768_2, HL768_3, HR768_1, HC768_1, HR768_2, HC768_2, HR768_3, HC768_3, p768, q768, qi768⟩ := rdN0 HO_11.out w.heap.size
       cases e768
       obtain ⟨ad771, A771_1, c771_1, A771_2, c771_2, A771_3, c771_3, e771, hx771_0, hx771_1, hx771_2, hx771_3, HL771_1, HL771_2, HL771_3, HR771_1, HC771_1, HR771_2, HC771_2, HR771_3, HC771_3, p771, q771, qi771⟩ := rdN0 HO_11.out w.heap.size
       obtain rfl : ad768 = ad771 := (by injection e771)
       have ea_ := Option.some.inj (hx768_1.symm.trans hx771_1)
       injection ea_ with ea_ en_ ec_
       subst ea_
       subst ec_
       clear en_
       have ea_ := Option.some.inj (hx768_2.symm.trans hx771_2)
       injection ea_ with ea_ en_ ec_
       subst ea_
       subst ec_
       clear en_
       have ea_ := Option.some.inj (hx768_3.symm.trans hx771_3)
       injection ea_ with ea_ en_ ec_
       subst ea_
       subst ec_
       clear en_
       go_wp2_with (first | ((with_reducible refine Xi (f := 54) rfl ?_); refine Xbz (some 105) rfl rfl Try.func54 J17 rfl #[.agg #[.int .i64 ((Xa t746 0).f0), .slice A768_1 ((Xa t746 0).f1).length c768_1, .slice A768_2 ((Xa t746 0).f2).length c768_2, .slice A768_3 ((Xa t746 0).f3).length c768_3]] rfl J3 ?_; (with_reducible refine (Xaj.calls kj49 ((Xa t746 0).f0) _ _ ((Xa t746 0).f1) _ _ ((Xa t746 0).f2) _ _ ((Xa t746 0).f3) t772 _ ?side1 ?side2 ?side3 ?side4 ?side5 ?side6 A76.out).mono ?_); (case side1 => repeat (first | exact (by repeat (first | (with_reducible exact HR771_1.out) | (with_reducible refine Kd.C_alloc ?_ _) | (with_reducible refine au ?_ _) | (with_reducible refine Kd.C_drew ?_) | exact HR771_1.out)) | (with_reducible refine Kd.C_alloc ?_ _) | (with_reducible refine au ?_ _) | (with_reducible refine Kd.C_drew ?_))); (case side2 => exact HC771_1.out); (case side3 => repeat (first | exact (by repeat (first | (with_reducible exact HR771_2.out) | (with_reducible refine Kd.C_alloc ?_ _) | (with_reducible refine au ?_ _) | (with_reducible refine Kd.C_drew ?_) | exact HR771_2.out)) | (with_reducible refine Kd.C_alloc ?_ _) | (with_reducible refine au ?_ _) | (with_reducible refine Kd.C_drew ?_))); (case side4 => exact HC771_2.out); (case side5 => repeat (first | exact (by repeat (first | (with_reducible exact HR771_3.out) | (with_reducible refine Kd.C_alloc ?_ _) | (with_reducible refine au ?_ _) | (with_reducible refine Kd.C_drew ?_) | exact HR771_3.out)) | (with_reducible refine Kd.C_alloc ?_ _) | (with_reducible refine au ?_ _) | (with_reducible refine Kd.C_drew ?_))); (case side6 => exact HC771_3.out); rintro e w78 ⟨v773, rfl, ho0, hb⟩; refine ⟨_, rfl, ?_⟩; replace HO_4 := zq (ae (zn HO_4.out) (aa ho0) hb); replace HO_7 := zq (ae (zn HO_7.out) (aa ho0) hb); replace HO_8 := zq (ab (zr HO_8.out) hb); replace HO_11 := zq (ae (zn HO_11.out) (aa ho0) hb); replace HL768_1 := zq (am (zv HL768_1.out) (aa ho0) hb); replace HL768_2 := zq (am (zv HL768_2.out) (aa ho0) hb); replace HL768_3 := zq (am (zv HL768_3.out) (aa ho0) hb); have HO774 := zq (ag (aW (aT (M := fun k_ => (w.heap.size ≤ k_)) ho0 (Xc (zs1 GE711.out)) (fun k_ h_ => h_)) (aY (zr HO_9.out))) (Xc (zs1 GE711.out))); replace HO_9 := zq (ay (zr HO_9.out) (aa ho0) hb); replace BK711 := zq (Xg (zk BK711.out) hb); replace HR768_1 := zq (ac (by repeat (first | (with_reducible exact HR768_1.out) | (with_reducible refine Kd.C_alloc ?_ _) | (with_reducible refine au ?_ _) | (with_reducible refine Kd.C_drew ?_) | exact HR768_1.out)) hb); replace HR768_2 := zq (ac (by repeat (first | (with_reducible exact HR768_2.out) | (with_reducible refine Kd.C_alloc ?_ _) | (with_reducible refine au ?_ _) | (with_reducible refine Kd.C_drew ?_) | exact HR768_2.out)) hb); replace HR768_3 := zq (ac (by repeat (first | (with_reducible exact HR768_3.out) | (with_reducible refine Kd.C_alloc ?_ _) | (with_reducible refine au ?_ _) | (with_reducible refine Kd.C_drew ?_) | exact HR768_3.out)) hb); replace HB := zq (Xe (zs1 GE711.out) hb); (try clear hb); (try clear hk); (try clear ho0); obtain ⟨Ao80, co80, eo80⟩ := ah HO774.out; subst eo80) | ((with_reducible refine Xa0 (b := .append) (xs := #[.tmp 101, .tmp 105]) rfl ?_); (try (refine Xw J63 ?_; dsimp only)); at_builtin; refine aI k38 (w0 := w) w.heap.size rfl (.tmp 101) (.tmp 105) 24 38 (.agg #[(.int .i64 0), (.int .i64 0)]) 16 rfl Try.underlying24 Xdo rfl J14 J29 u9 x9_2 t772 _ _ _ (fun k_ => (w.heap.size ≤ k_) ∧ some k_ ≠ (.slice Ao80 t772.length co80 : Value).ownBlock) (fun _ => False) rfl rfl ?aO ?aR (fun _ _ h => h) (fun _ h => h.elim) ?aF ?aB ?aS ?aL ?_; (case aR => repeat (first | exact (an HO774.out).2.2 | (with_reducible refine Kd.C_alloc ?_ _) | (with_reducible refine au ?_ _) | (with_reducible refine Kd.C_drew ?_))); (case aB => exact (zs1 GE711.out)); (case aF => exact (fun k_ hk => ⟨(Nat.le_trans (Xc (zs1 GE711.out)) hk), Kd.fresh' (aY (zr HO774.out)) k_ hk⟩)); (case aO => exact (zr HO_9.out)); (case aS => exact (Xc (zs1 GE711.out))); (case aL => have := LMc77.out; omega); intro v776 w79 ho hb hg hat; rw [← Ny775.out] at ho; replace HO_4 := zq (aQ (ok := (fun k_ => (w.heap.size ≤ k_) ∧ some k_ ≠ (v750 : Value).ownBlock ∧ some k_ ≠ (u8 : Value).ownBlock ∧ some k_ ≠ (.slice (some ad768) t746.length co54 : Value).ownBlock ∧ some k_ ≠ (.slice Ao80 t772.length co80 : Value).ownBlock ∧ k_ ≠ gb711)) (by (with_reducible repeat (first | apply Kd.N_alloc | apply Kd.N_drewN | apply aC)); exact ap HO_4.out (fun _ hk => ⟨⟨hk.1.1, ⟨hk.1.2.1, ⟨hk.1.2.2.1, ⟨hk.1.2.2.2.2.1, ⟨hk.2, hk.1.2.2.2.2.2⟩⟩⟩⟩⟩, hk.1.2.2.2.1⟩)) hg hat); replace HO_7 := zq (aQ (ok := (fun k_ => (w.heap.size ≤ k_) ∧ some k_ ≠ (.slice (some ad745) t715.length co51 : Value).ownBlock ∧ some k_ ≠ (u8 : Value).ownBlock ∧ some k_ ≠ (.slice Ao80 t772.length co80 : Value).ownBlock ∧ k_ ≠ gb711)) (by (with_reducible repeat (first | apply Kd.N_alloc | apply Kd.N_drewN | apply aC)); exact ap HO_7.out (fun _ hk => ⟨⟨hk.1.1, ⟨hk.1.2.1, ⟨hk.1.2.2.1, ⟨hk.2, hk.1.2.2.2.2⟩⟩⟩⟩, hk.1.2.2.2.1⟩)) hg hat); replace HO_8 := zq (a9 (zr HO_8.out) (aK (zr HO_9.out)) J14 hg); replace HO_11 := zq (aQ (ok := (fun k_ => (w.heap.size ≤ k_) ∧ some k_ ≠ (.slice (some ad745) t715.length co51 : Value).ownBlock ∧ some k_ ≠ (v750 : Value).ownBlock ∧ some k_ ≠ (u8 : Value).ownBlock ∧ some k_ ≠ (.slice Ao80 t772.length co80 : Value).ownBlock ∧ k_ ≠ gb711)) (by (with_reducible repeat (first | apply Kd.N_alloc | apply Kd.N_drewN | apply aC)); exact ap HO_11.out (fun _ hk => ⟨⟨hk.1.1, ⟨hk.1.2.1, ⟨hk.1.2.2.1, ⟨hk.1.2.2.2.1, ⟨hk.2, hk.1.2.2.2.2.2⟩⟩⟩⟩⟩, hk.1.2.2.2.2.1⟩)) hg hat); replace BK711 := zq (Xa9 (g := gb711) (o := .cells #[.int .i64 ((Xa l0 0).f0), .slice A710_1 ((Xa l0 0).f1).length c710_1, .slice A710_2 ((Xa l0 0).f2).length c710_2, .slice A710_3 ((Xa l0 0).f3).length c710_3] 30 (0, 0)) (zk BK711.out) hg (bk HO_9.out BK711.out J14)); replace HL768_1 := zq (aN (ok := (fun k_ => (w.heap.size ≤ k_) ∧ some k_ ≠ (.slice (some ad745) t715.length co51 : Value).ownBlock ∧ some k_ ≠ (v750 : Value).ownBlock ∧ some k_ ≠ (u8 : Value).ownBlock ∧ some k_ ≠ (.slice (some ad768) t746.length co54 : Value).ownBlock ∧ some k_ ≠ (.slice Ao80 t772.length co80 : Value).ownBlock ∧ k_ ≠ gb711)) (by (with_reducible repeat (first | apply Kd.V_alloc | apply Kd.V_drewN | apply aA)); exact aj HL768_1.out (fun _ hk => ⟨⟨hk.1.1.1, ⟨hk.1.1.2.1, ⟨hk.1.1.2.2.1, ⟨hk.1.1.2.2.2.1, ⟨hk.1.2, ⟨hk.2, hk.1.1.2.2.2.2.2⟩⟩⟩⟩⟩⟩, hk.1.1.2.2.2.2.1⟩)) hg hat); replace HL768_2 := zq (aN (ok := (fun k_ => (w.heap.size ≤ k_) ∧ some k_ ≠ (.slice (some ad745) t715.length co51 : Value).ownBlock ∧ some k_ ≠ (v750 : Value).ownBlock ∧ some k_ ≠ (u8 : Value).ownBlock ∧ some k_ ≠ (.slice (some ad768) t746.length co54 : Value).ownBlock ∧ some k_ ≠ (.slice Ao80 t772.length co80 : Value).ownBlock ∧ k_ ≠ gb711)) (by (with_reducible repeat (first | apply Kd.V_alloc | apply Kd.V_drewN | apply aA)); exact aj HL768_2.out (fun _ hk => ⟨⟨hk.1.1.1, ⟨hk.1.1.2.1, ⟨hk.1.1.2.2.1, ⟨hk.1.1.2.2.2.1, ⟨hk.1.2, ⟨hk.2, hk.1.1.2.2.2.2.2⟩⟩⟩⟩⟩⟩, hk.1.1.2.2.2.2.1⟩)) hg hat); replace HL768_3 := zq (aN (ok := (fun k_ => (w.heap.size ≤ k_) ∧ some k_ ≠ (.slice (some ad745) t715.length co51 : Value).ownBlock ∧ some k_ ≠ (v750 : Value).ownBlock ∧ some k_ ≠ (u8 : Value).ownBlock ∧ some k_ ≠ (.slice (some ad768) t746.length co54 : Value).ownBlock ∧ some k_ ≠ (.slice Ao80 t772.length co80 : Value).ownBlock ∧ k_ ≠ gb711)) (by (with_reducible repeat (first | apply Kd.V_alloc | apply Kd.V_drewN | apply aA)); exact aj HL768_3.out (fun _ hk => ⟨⟨hk.1.1.1, ⟨hk.1.1.2.1, ⟨hk.1.1.2.2.1, ⟨hk.1.1.2.2.2.1, ⟨hk.1.2, ⟨hk.2, hk.1.1.2.2.2.2.2⟩⟩⟩⟩⟩⟩, hk.1.1.2.2.2.2.1⟩)) hg hat); replace HB := zq (hb); have HO777 := zq (ho); clear HO_9; clear ho hb hg hat))
       go_roundg kj49
       case measure => have := HJ8.out; have := HK2.out; have := HJ49.out; omega
       case rel => exact ⟨(y749), (x8_2), (y775), (wrap64 (x10_2 + 1)), J4, H', ⟨J91⟩, ⟨by (with_reducible repeat (first | apply Kd.N_alloc | apply Kd.N_drewN | apply aC)); exact ap HO_4.out (fun _ hk => ⟨hk.1.1, ⟨hk.1.2.1, ⟨hk.1.2.2.1, ⟨hk.2, hk.1.2.2.2.2.2⟩⟩⟩⟩)⟩, ⟨J124⟩, ⟨J64⟩, ⟨by (with_reducible repeat (first | apply Kd.R_alloc | apply ai | apply ak)); exact af HO777.out (fun _ hk => hk.1)⟩, ⟨J25⟩, ⟨J11⟩⟩
end Go.Proofs.Ytecdklheppcihaa.HTightTells
