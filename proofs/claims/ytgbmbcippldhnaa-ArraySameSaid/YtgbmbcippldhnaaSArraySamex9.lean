/- What the Go functions of this claim answer, told as functions of numbers and lists, and that other memory stays as it was: words and walks, shortened by a program. -/
import Derived.Test.YtgbmbcippldhnaaSArraySamex0
import Derived.Test.YtgbmbcippldhnaaSArraySamex2
import Derived.Test.YtgbmbcippldhnaaSArraySamex6
import Derived.Test.YtgbmbcippldhnaaSArraySamex7
import Derived.Test.YtgbmbcippldhnaaSArraySamex8
namespace Go.Proofs.Ytgbmbcippldhnaa.HArraySame
open Go.RowKit Go.Proofs.YtgbmbcippldhnaaW.PrintWords Go.Proofs.YtgbmbcippldhnaaW.PrintLast Go.Proofs.YtgbmbcippldhnaaW.PrintMore
attribute [local go_sem] max2_int min2_int max_two min_two max_three min_three max_four min_four
set_option linter.unusedVariables false
set_option linter.unusedSimpArgs false
theorem V_okb {α : Type} {d : Kd α} {e base : Nat} {W : World} {ok : Nat → Prop} {ad : Addr} {n c : Nat} {xs : List α} (h : Kd.V d e W base ok (.slice (some ad) n c) xs) (hp : 0 < xs.length) (hs : 0 < d.sz) : ok ad.block := by
  obtain ⟨hn, hc, hF⟩ := Kd.V_at h
  obtain ⟨ad', c', he, _, _, _, h2⟩ := Kd.F_get hF (xs[0]'hp) 0 J28 J28
  injection he with he
  subst he
  exact h2 hs
def decklelaw10_small.j0 : Nat → List (S32) → Bool → Bool → List (S32) → Bool → List (List (S32)) → Bool → Option (Bool)
  | 0, _, _, _, _, _, _, _ => none
  | k + 1, x1, x2, x4, x5, x6, x7, x37 => if x37 = true then (none) else (if x2 = true then (if x4 = true then (none) else (if x6 = true then (if (x5.length : Int) = 1 then ((array_Right.f k x1).bind fun t284 => (if t284 = true then ((array_Right.f k x5).bind fun t285 => (if t285 = true then (if 2 ≤ (x1.length : Int) then ((array_Right.f k (x1.take 2)).bind fun t291 => (if t291 = true then (none) else ((array_Right.f k ([] : List (S32))).bind fun t292 => (if t292 = true then (none) else ((array_Copy.f x1).bind fun t293 => ((decklelaw10_one.f 5).bind fun t296 => (if t293.length + t296.length < 1759218604441 then ((array_Take.f k (t293 ++ t296)).bind fun t302 => (if t302 = 3 then ((array_Items.f k x1).bind fun t303 => (if t303 = 4 then ((array_Depth.f k x1).bind fun t304 => (if t304 = 2 then ((array_Depth.f k x5).bind fun t305 => (if t305 = 1 then ((array_Rank.f k x1).bind fun t306 => (if t306 = 1 then ((array_Items.f k (x1.take 2)).bind fun t312 => (if t312 = 0 then (if 1 < (x7.length : Int) then ((decklelaw10_one.f 4).bind fun t314 => ((array_Same.f k (rd_L5 x7 1) t314).bind fun t317 => (if t317 = true then ((decklelaw10_one.f 3).bind fun t318 => ((decklelaw10_one.f 4).bind fun t321 => ((array_Same.f k t318 t321).bind fun t324 => (if t324 = true then (none) else ((array_Right.f k (([(⟨1, ([] : List Int), (([2] : List Int)), ([] : List (S41))⟩ : S32)] : List (S32)))).bind fun t331 => (if t331 = true then (none) else ((array_Right.f k (([(⟨2, ([] : List Int), ([] : List Int), ([] : List (S41))⟩ : S32)] : List (S32)))).bind fun t335 => (if t335 = true then (none) else ((array_Right.f k (([(⟨4, ([] : List Int), ([] : List Int), (([(⟨10, 0⟩ : S41)] : List (S41)))⟩ : S32)] : List (S32)))).bind fun t342 => (if t342 = true then (none) else ((array_Right.f k (([(⟨3, (([0, 3] : List Int)), ([] : List Int), ([] : List (S41))⟩ : S32)] : List (S32)))).bind fun t349 => (some t349)))))))))))) else (none)))) else (none)) else (none))) else (none))) else (none))) else (none))) else (none))) else (none))) else (none)))))))) else (none)) else (none))) else (none))) else (none)) else (none))) else (none))
def decklelaw10_small.f (k : Nat)  : Option (Bool) := (decklelaw10_one.f 3).bind fun t248 => ((decklelaw10_one.f 4).bind fun t251 => ((array_Nest.f k (([2] : List Int)) (([t248, t251] : List (List (S32))))).bind fun bt257 => ((decklelaw10_one.f 3).bind fun t264 => ((array_Nest.f k (([2] : List Int)) (([t264] : List (List (S32))))).bind fun bt270 => ((array_Nest.f k (([0] : List Int)) ([] : List (List (S32)))).bind fun bt277 => ((array_Kids.f k bt257.1).bind fun t281 => (if (bt257.1.length : Int) = 3 then (decklelaw10_small.j0 k bt257.1 bt257.2 bt270.2 bt277.1 bt277.2 t281 ((t281.length : Int) != 2)) else (decklelaw10_small.j0 k bt257.1 bt257.2 bt270.2 bt277.1 bt277.2 t281 true))))))))
theorem decklelaw10_small.mono_l : ∀ k, (∀ y0 y1 y2 y3 y4 y5 y6, LeO (decklelaw10_small.j0 k y0 y1 y2 y3 y4 y5 y6) (decklelaw10_small.j0 (k + 1) y0 y1 y2 y3 y4 y5 y6))
  | 0 => fun _ _ _ _ _ _ _ r h => by simp [decklelaw10_small.j0] at h
  | k + 1 => by
    have ih0 := decklelaw10_small.mono_l k
    · intro y0 y1 y2 y3 y4 y5 y6
      unfold decklelaw10_small.j0
      repeat' first
      | (with_reducible exact ih0 _ _ _ _ _ _ _)
      | (with_reducible exact array_Depth.mono _ _)
      | (with_reducible exact array_Items.mono _ _)
      | (with_reducible exact array_Kids.mono _ _)
      | (with_reducible exact array_Nest.mono _ _ _)
      | (with_reducible exact array_Rank.mono _ _)
      | (with_reducible exact array_Right.mono _ _)
      | (with_reducible exact array_Same.mono _ _ _)
      | (with_reducible exact array_Take.mono _ _)
      | (with_reducible exact LeO.refl _)
      | (with_reducible exact LeO.none _)
      | (with_reducible refine LeO.ite ?_ ?_)
      | (with_reducible refine LeO.bind ?_ (fun _ => ?_))
      | exact ih0 _ _ _ _ _ _ _
      | exact array_Depth.mono _ _
      | exact array_Items.mono _ _
      | exact array_Kids.mono _ _
      | exact array_Nest.mono _ _ _
      | exact array_Rank.mono _ _
      | exact array_Right.mono _ _
      | exact array_Same.mono _ _ _
      | exact array_Take.mono _ _
      | exact LeO.none _
      | refine LeO.ite ?_ ?_
      | refine LeO.bind ?_ (fun _ => ?_)
theorem decklelaw10_small.mono : ∀ k, LeO (decklelaw10_small.f k ) (decklelaw10_small.f (k + 1) ) := by
  intro  k
  have ih0 := decklelaw10_small.mono_l k
  unfold decklelaw10_small.f
  repeat' first
      | (with_reducible exact ih0 _ _ _ _ _ _ _)
      | (with_reducible exact array_Depth.mono _ _)
      | (with_reducible exact array_Items.mono _ _)
      | (with_reducible exact array_Kids.mono _ _)
      | (with_reducible exact array_Nest.mono _ _ _)
      | (with_reducible exact array_Rank.mono _ _)
      | (with_reducible exact array_Right.mono _ _)
      | (with_reducible exact array_Same.mono _ _ _)
      | (with_reducible exact array_Take.mono _ _)
      | (with_reducible exact LeO.refl _)
      | (with_reducible exact LeO.none _)
      | (with_reducible refine LeO.ite ?_ ?_)
      | (with_reducible refine LeO.bind ?_ (fun _ => ?_))
      | exact ih0 _ _ _ _ _ _ _
      | exact array_Depth.mono _ _
      | exact array_Items.mono _ _
      | exact array_Kids.mono _ _
      | exact array_Nest.mono _ _ _
      | exact array_Rank.mono _ _
      | exact array_Right.mono _ _
      | exact array_Same.mono _ _ _
      | exact array_Take.mono _ _
      | exact LeO.none _
      | refine LeO.ite ?_ ?_
      | refine LeO.bind ?_ (fun _ => ?_)
def decklelaw10_small.T7 : Bool × List (List Nat × List Nat) := (true, [([], []), ([0], [0]), ([1], [1]), ([2, 1], [1, 2]), ([1, 3], [1, 3]), ([4, 1], [4]), ([5], [5]), ([5, 6], [5, 6]), ([7, 5], [7]), ([8], [8]), ([9, 8], [8, 9]), ([10, 8], [8, 10]), ([8, 11], [8, 11]), ([12, 8], [12]), ([13], [13]), ([14, 13, 13], [13, 14]), ([13, 15], [13, 15]), ([16, 15], [16]), ([17], [17]), ([18, 17, 17], [17, 18]), ([17, 19], [17, 19]), ([20, 19], [20]), ([21], [21]), ([22, 21], [21, 22]), ([23, 21, 21], [21, 23]), ([24, 21], [21, 24]), ([21, 25], [21, 25]), ([26, 24], [26]), ([27, 27], [27]), ([28, 27], [27, 28]), ([27, 29], [27, 29]), ([30, 28], [30]), ([31], [31]), ([32, 31, 31], [31, 32]), ([33, 31], [31]), ([33, 34, 34, 31], [31, 33, 34]), ([35, 35, 31], [31, 35]), ([36, 31], [31, 36]), ([31, 37], [31, 37]), ([38, 36], [38]), ([39], [39]), ([40, 39, 39], [39, 40]), ([41, 39], [39, 41]), ([39, 42], [39, 42]), ([43, 41], [43]), ([44], [44]), ([45, 44, 44], [44, 45]), ([46, 44], [44, 46]), ([44, 47], [44, 47]), ([48, 46], [48]), ([49], [49]), ([50, 49, 49], [49, 50]), ([51, 49], [49, 51]), ([49, 52], [49, 52]), ([53, 51], [53]), ([54], [54]), ([55, 54, 54], [54, 55]), ([56, 54], [54, 56]), ([54, 57], [54, 57]), ([58, 56], [58]), ([59], [59]), ([60, 59], [59, 60]), ([61, 59, 59], [59, 61]), ([62, 59], [59, 62]), ([59, 63], [59, 63]), ([64, 62], [64]), ([65], [65]), ([66, 65], [65, 66]), ([67, 65], [65, 67]), ([65, 65], [65]), ([68, 69, 69, 65], [65, 68, 69]), ([65, 70], [65, 70]), ([71, 70], [71]), ([72, 72], [72]), ([73, 72], [72]), ([73, 74, 74, 72], [72, 73, 74]), ([75, 72], [72, 75]), ([72, 76], [72, 76]), ([77, 75], [77]), ([78], [78]), ([79, 78], [78, 79]), ([80, 78], [78, 80]), ([81, 78, 78], [78, 81]), ([82, 78], [78, 82]), ([78, 83], [78, 83]), ([84, 82], [84]), ([85], [85]), ([86, 85], [85, 86]), ([87, 85, 85], [85, 87]), ([88, 85], [85, 88]), ([85, 89], [85, 89]), ([90, 88], [90]), ([91], [91]), ([92, 91], [91, 92]), ([93, 91], [91, 93]), ([94, 91], [91, 94]), ([95, 91, 91], [91, 95]), ([96, 91], [91, 96]), ([91, 97], [91, 97]), ([98, 96], [98]), ([99], [99]), ([100, 99], [99, 100]), ([101, 99], [99, 101]), ([102, 99, 99], [99, 102]), ([99, 103], [99, 103]), ([104, 103, 0, 1, 2, 3, 4, 5, 6, 7, 8, 9, 10, 11, 12, 13, 14, 15, 16, 17, 18, 19, 20, 21, 22, 23, 24, 25, 26, 27, 28, 29, 30, 31, 32, 33, 34, 35, 36, 37, 38, 39, 40, 41, 42, 43, 44, 45, 46, 47, 48, 49, 50, 51, 52, 53, 54, 55, 56, 57, 58, 59, 60, 61, 62, 63, 64, 65, 66, 67, 68, 69, 70, 71, 72, 73, 74, 75, 76, 77, 78, 79, 80, 81, 82, 83, 84, 85, 86, 87, 88, 89, 90, 91, 92, 93, 94, 95, 96, 97, 98, 99, 100, 101, 102, 103, 104], [104])])
def decklelaw10_small.B7 : List Nat := [0, 1, 3, 7, 15, 31, 63, 127, 255, 511, 1023, 2047, 4095, 8191, 16383, 32767, 65535, 131071, 262143, 524287, 1048575, 2097151, 4194303, 8388607, 16777215, 33554431, 67108863, 134217727, 268435455, 536870911, 1073741823, 2147483647, 4294967295, 8589934591, 17179869183, 34359738367, 68719476735, 137438953471, 274877906943, 549755813887, 1099511627775, 2199023255551, 4398046511103, 8796093022207, 17592186044415, 35184372088831, 70368744177663, 140737488355327, 281474976710655, 562949953421311, 1125899906842623, 2251799813685247, 4503599627370495, 9007199254740991, 18014398509481983, 36028797018963967, 72057594037927935, 144115188075855871, 288230376151711743, 576460752303423487, 1152921504606846975, 2305843009213693951, 4611686018427387903, 9223372036854775807, 18446744073709551615, 36893488147419103231, 73786976294838206463, 147573952589676412927, 295147905179352825855, 73786976294838206463, 1180591620717411303423, 2361183241434822606847, 4722366482869645213695, 9444732965739290427391, 18889465931478580854783, 37778931862957161709567, 75557863725914323419135, 151115727451828646838271, 302231454903657293676543, 604462909807314587353087, 1208925819614629174706175, 2417851639229258349412351, 4835703278458516698824703, 9671406556917033397649407, 19342813113834066795298815, 38685626227668133590597631, 77371252455336267181195263, 154742504910672534362390527, 309485009821345068724781055, 618970019642690137449562111, 1237940039285380274899124223, 2475880078570760549798248447, 4951760157141521099596496895, 9903520314283042199192993791, 19807040628566084398385987583, 39614081257132168796771975167, 79228162514264337593543950335, 158456325028528675187087900671, 316912650057057350374175801343, 633825300114114700748351602687, 1267650600228229401496703205375, 2535301200456458802993406410751, 5070602400912917605986812821503, 10141204801825835211973625643007, 20282409603651670423947251286015, 40564819207303340847894502572031]
theorem decklelaw10_small.tab7 : rtab .any (opsOf Try.f8 7) = decklelaw10_small.T7 := J8
theorem decklelaw10_small.bits7 : waitsOk decklelaw10_small.T7.2 decklelaw10_small.B7 = true := J8
set_option maxHeartbeats 8000000 in
set_option maxRecDepth 100000 in
theorem decklelaw10_small.calls (k : Nat)  (r : Bool) (w : World) (h : decklelaw10_small.f k  = some r) :
    Calls Try.prog 8 #[] w fun e w' => e = .returned (.bool r) ∧ Below w.heap.size w w' := by
  have hu32 := Try.underlying32
  have hu41 := Try.underlying41
  have HB := Aside0.mk (Below.refl w.heap.size w)
  have H : ((decklelaw10_one.f 3).bind fun t248 => ((decklelaw10_one.f 4).bind fun t251 => ((array_Nest.f k (([2] : List Int)) (([t248, t251] : List (List (S32))))).bind fun bt257 => ((decklelaw10_one.f 3).bind fun t264 => ((array_Nest.f k (([2] : List Int)) (([t264] : List (List (S32))))).bind fun bt270 => ((array_Nest.f k (([0] : List Int)) ([] : List (List (S32)))).bind fun bt277 => ((array_Kids.f k bt257.1).bind fun t281 => (if (bt257.1.length : Int) = 3 then (decklelaw10_small.j0 k bt257.1 bt257.2 bt270.2 bt277.1 bt277.2 t281 ((t281.length : Int) != 2)) else (decklelaw10_small.j0 k bt257.1 bt257.2 bt270.2 bt277.1 bt277.2 t281 true))))))))) = some r := h
  clear h
  obtain ⟨y245, hy245⟩ : ∃ y_ : List Int, y_ = (([2] : List Int)) := ⟨_, rfl⟩
  replace H : ((decklelaw10_one.f 3).bind fun t248 => ((decklelaw10_one.f 4).bind fun t251 => ((array_Nest.f k y245 (([t248, t251] : List (List (S32))))).bind fun bt257 => ((decklelaw10_one.f 3).bind fun t264 => ((array_Nest.f k (([2] : List Int)) (([t264] : List (List (S32))))).bind fun bt270 => ((array_Nest.f k (([0] : List Int)) ([] : List (List (S32)))).bind fun bt277 => ((array_Kids.f k bt257.1).bind fun t281 => (if (bt257.1.length : Int) = 3 then (decklelaw10_small.j0 k bt257.1 bt257.2 bt270.2 bt277.1 bt277.2 t281 ((t281.length : Int) != 2)) else (decklelaw10_small.j0 k bt257.1 bt257.2 bt270.2 bt277.1 bt277.2 t281 true))))))))) = some r := by first | (rw [hy245]; with_reducible exact H) | (have H2_ := (Option.bind_some _ _).symm.trans H; rw [hy245]; with_reducible exact H2_) | (have H2_ := (Option.bind_some _ _).symm.trans H; with_reducible exact H2_) | with_reducible exact H | (rw [hy245]; exact H) | exact H
  have Ny245 := Aside0.mk hy245
  clear hy245
  replace H := Option.bind_eq_some_iff.mp H
  obtain ⟨t248, A10, H⟩ := H
  have A1 := Aside0.mk A10
  clear A10
  replace H := Option.bind_eq_some_iff.mp H
  obtain ⟨t251, A20, H⟩ := H
  have A2 := Aside0.mk A20
  clear A20
  obtain ⟨y254, hy254⟩ : ∃ y_ : List (List (S32)), y_ = (([t248, t251] : List (List (S32)))) := ⟨_, rfl⟩
  replace H : ((array_Nest.f k y245 y254).bind fun bt257 => ((decklelaw10_one.f 3).bind fun t264 => ((array_Nest.f k (([2] : List Int)) (([t264] : List (List (S32))))).bind fun bt270 => ((array_Nest.f k (([0] : List Int)) ([] : List (List (S32)))).bind fun bt277 => ((array_Kids.f k bt257.1).bind fun t281 => (if (bt257.1.length : Int) = 3 then (decklelaw10_small.j0 k bt257.1 bt257.2 bt270.2 bt277.1 bt277.2 t281 ((t281.length : Int) != 2)) else (decklelaw10_small.j0 k bt257.1 bt257.2 bt270.2 bt277.1 bt277.2 t281 true))))))) = some r := by first | (rw [hy254]; with_reducible exact H) | (have H2_ := (Option.bind_some _ _).symm.trans H; rw [hy254]; with_reducible exact H2_) | (have H2_ := (Option.bind_some _ _).symm.trans H; with_reducible exact H2_) | with_reducible exact H | (rw [hy254]; exact H) | exact H
  have Ny254 := Aside0.mk hy254
  clear hy254
  replace H := Option.bind_eq_some_iff.mp H
  obtain ⟨⟨t257, t260⟩, A30, H⟩ := H
  replace H : ((decklelaw10_one.f 3).bind fun t264 => ((array_Nest.f k (([2] : List Int)) (([t264] : List (List (S32))))).bind fun bt270 => ((array_Nest.f k (([0] : List Int)) ([] : List (List (S32)))).bind fun bt277 => ((array_Kids.f k t257).bind fun t281 => (if (t257.length : Int) = 3 then (decklelaw10_small.j0 k t257 t260 bt270.2 bt277.1 bt277.2 t281 ((t281.length : Int) != 2)) else (decklelaw10_small.j0 k t257 t260 bt270.2 bt277.1 bt277.2 t281 true)))))) = some r := H
  have A3 := Aside0.mk A30
  clear A30
  obtain ⟨y261, hy261⟩ : ∃ y_ : List Int, y_ = (([2] : List Int)) := ⟨_, rfl⟩
  replace H : ((decklelaw10_one.f 3).bind fun t264 => ((array_Nest.f k y261 (([t264] : List (List (S32))))).bind fun bt270 => ((array_Nest.f k (([0] : List Int)) ([] : List (List (S32)))).bind fun bt277 => ((array_Kids.f k t257).bind fun t281 => (if (t257.length : Int) = 3 then (decklelaw10_small.j0 k t257 t260 bt270.2 bt277.1 bt277.2 t281 ((t281.length : Int) != 2)) else (decklelaw10_small.j0 k t257 t260 bt270.2 bt277.1 bt277.2 t281 true)))))) = some r := by first | (rw [hy261]; with_reducible exact H) | (have H2_ := (Option.bind_some _ _).symm.trans H; rw [hy261]; with_reducible exact H2_) | (have H2_ := (Option.bind_some _ _).symm.trans H; with_reducible exact H2_) | with_reducible exact H | (rw [hy261]; exact H) | exact H
  have Ny261 := Aside0.mk hy261
  clear hy261
  replace H := Option.bind_eq_some_iff.mp H
  obtain ⟨t264, A40, H⟩ := H
  have A4 := Aside0.mk A40
  clear A40
  obtain ⟨y267, hy267⟩ : ∃ y_ : List (List (S32)), y_ = (([t264] : List (List (S32)))) := ⟨_, rfl⟩
  replace H : ((array_Nest.f k y261 y267).bind fun bt270 => ((array_Nest.f k (([0] : List Int)) ([] : List (List (S32)))).bind fun bt277 => ((array_Kids.f k t257).bind fun t281 => (if (t257.length : Int) = 3 then (decklelaw10_small.j0 k t257 t260 bt270.2 bt277.1 bt277.2 t281 ((t281.length : Int) != 2)) else (decklelaw10_small.j0 k t257 t260 bt270.2 bt277.1 bt277.2 t281 true))))) = some r := by first | (rw [hy267]; with_reducible exact H) | (have H2_ := (Option.bind_some _ _).symm.trans H; rw [hy267]; with_reducible exact H2_) | (have H2_ := (Option.bind_some _ _).symm.trans H; with_reducible exact H2_) | with_reducible exact H | (rw [hy267]; exact H) | exact H
  have Ny267 := Aside0.mk hy267
  clear hy267
  replace H := Option.bind_eq_some_iff.mp H
  obtain ⟨⟨t270, t273⟩, A50, H⟩ := H
  replace H : ((array_Nest.f k (([0] : List Int)) ([] : List (List (S32)))).bind fun bt277 => ((array_Kids.f k t257).bind fun t281 => (if (t257.length : Int) = 3 then (decklelaw10_small.j0 k t257 t260 t273 bt277.1 bt277.2 t281 ((t281.length : Int) != 2)) else (decklelaw10_small.j0 k t257 t260 t273 bt277.1 bt277.2 t281 true)))) = some r := H
  have A5 := Aside0.mk A50
  clear A50
  obtain ⟨y274, hy274⟩ : ∃ y_ : List Int, y_ = (([0] : List Int)) := ⟨_, rfl⟩
  replace H : ((array_Nest.f k y274 ([] : List (List (S32)))).bind fun bt277 => ((array_Kids.f k t257).bind fun t281 => (if (t257.length : Int) = 3 then (decklelaw10_small.j0 k t257 t260 t273 bt277.1 bt277.2 t281 ((t281.length : Int) != 2)) else (decklelaw10_small.j0 k t257 t260 t273 bt277.1 bt277.2 t281 true)))) = some r := by first | (rw [hy274]; with_reducible exact H) | (have H2_ := (Option.bind_some _ _).symm.trans H; rw [hy274]; with_reducible exact H2_) | (have H2_ := (Option.bind_some _ _).symm.trans H; with_reducible exact H2_) | with_reducible exact H | (rw [hy274]; exact H) | exact H
  have Ny274 := Aside0.mk hy274
  clear hy274
  replace H := Option.bind_eq_some_iff.mp H
  obtain ⟨⟨t277, t280⟩, A60, H⟩ := H
  replace H : ((array_Kids.f k t257).bind fun t281 => (if (t257.length : Int) = 3 then (decklelaw10_small.j0 k t257 t260 t273 t277 t280 t281 ((t281.length : Int) != 2)) else (decklelaw10_small.j0 k t257 t260 t273 t277 t280 t281 true))) = some r := H
  have A6 := Aside0.mk A60
  clear A60
  replace H := Option.bind_eq_some_iff.mp H
  obtain ⟨t281, A70, H⟩ := H
  have A7 := Aside0.mk A70
  clear A70
  have HC8 := Aside0.mk H
  clear H
  go_enter Try.func8, Try.ntmps8
  go_upto_region 5 with (first | ((with_reducible refine gate_dst (N := 9) rfl ?_); (try (refine gate_guard J38 ?_; dsimp only)); refine Kd.R_lit (Kd.int .i64) _ 3 ?hg (N := 9) ?hd (xs := ([2] : List Int)) (inner := [.int .i64 2]) (ok := fun _ => True) (okp := fun _ => True) ?hr ?hp (fun _ hk => hk) trivial (Below.refl _ _) (Nat.le_refl _) J21 ?_; (case hd => rfl); (case hg => rfl); (case hr => first | (go_simp; done) | (go_simp; rfl)); (case hp => exact (Reps.one (show Kd.M (Kd.int .i64) _ _ _ 2 [.int .i64 2] from rfl) (Reps.none _ _))); intro v246 w9 ho10 hb hg_ hnew_; clear hg_ hnew_; (first | rw [← Ny245.out] at ho10 | (simp only [Int.reduceToNat] at ho10; rw [← Ny245.out] at ho10)); have n0_ := Aside0.mk (Kd.R_lower ho10 (below_size J0)); have n1_ := Aside0.mk (below_step J0 hb); clear HB; have HO247 := n0_; have HB := n1_; clear n0_ n1_; clear hb ho10) | ((first | ((with_reducible refine gate_callee (f := 27) rfl ?_); refine goesL_ (some 10) rfl rfl Try.func27 J8 rfl #[.int .i64 3] rfl J1 ?_) | go_at_call 27); (with_reducible refine (decklelaw10_one.calls 3 t248 _ A1.out).mono ?_); rintro e w11 ⟨v249, rfl, ho0, hb⟩; (try refine ⟨_, rfl, ?_⟩); have n0_ := Aside0.mk (Kd.R_below (zr HO247.out) hb); have n1_ := Aside0.mk (Kd.N_lower (Kd.N_mono (ok' := fun k_ => some k_ ≠ (v246 : Value).ownBlock) ho0 (fun k_ hk_ => (Kd.fresh' (Kd.R_lt (zr HO247.out)) k_ hk_))) (below_size J0)); have n2_ := Aside0.mk (below_step J0 hb); clear HO247; clear HB; have HO247 := n0_; have HO250 := n1_; have HB := n2_; clear n0_ n1_ n2_; (try clear hb); (try clear hb2); (try clear hk); (try clear hi); (try clear ho0)) | ((first | ((with_reducible refine gate_callee (f := 27) rfl ?_); refine goesL_ (some 11) rfl rfl Try.func27 J8 rfl #[.int .i64 4] rfl J1 ?_) | go_at_call 27); (with_reducible refine (decklelaw10_one.calls 4 t251 _ A2.out).mono ?_); rintro e w12 ⟨v252, rfl, ho0, hb⟩; (try refine ⟨_, rfl, ?_⟩); have n0_ := Aside0.mk (Kd.R_below (zr HO247.out) hb); have n1_ := Aside0.mk (Kd.N_elder' (zn HO250.out) (Kd.N_base ho0) hb); have n2_ := Aside0.mk (Kd.N_lower (Kd.N_mono (ok' := fun k_ => some k_ ≠ (v246 : Value).ownBlock ∧ some k_ ≠ (v249 : Value).ownBlock) ho0 (fun k_ hk_ => ⟨(Kd.fresh' (Kd.R_lt (zr HO247.out)) k_ hk_), (Kd.fresh' (Kd.N_lt (zn HO250.out)) k_ hk_)⟩)) (below_size J0)); have n3_ := Aside0.mk (below_step J0 hb); clear HO247; clear HO250; clear HB; have HO247 := n0_; have HO250 := n1_; have HO253 := n2_; have HB := n3_; clear n0_ n1_ n2_ n3_; (try clear hb); (try clear hb2); (try clear hk); (try clear hi); (try clear ho0); obtain ⟨Ao13, co13, eo13⟩ := Kd.N_slice HO250.out; subst eo13; obtain ⟨Ao14, co14, eo14⟩ := Kd.N_slice HO253.out; subst eo14) | ((with_reducible refine gate_dst (N := 12) rfl ?_); (try (refine gate_guard J38 ?_; dsimp only)); refine Kd.N_lit (Kd.slice 32 k32) _ 22 ?hg (N' := 12) ?hd (xs := ([t248, t251] : List (List (S32)))) (inner := [.slice Ao13 t248.length co13, .slice Ao14 t251.length co14]) (ok := (fun k_ => some k_ ≠ (v246 : Value).ownBlock)) (okp := (fun k_ => some k_ ≠ (v246 : Value).ownBlock)) ?hr ?hp (fun _ hk => hk) ((show ∀ k_, w12.heap.size ≤ k_ → (fun k_ => some k_ ≠ (v246 : Value).ownBlock) k_ from fun k_ hk => Kd.fresh' (Kd.R_lt (zr HO247.out)) k_ hk) _ (Nat.le_refl _)) (Below.refl _ _) (Nat.le_refl _) J21 ?_; (case hd => rfl); (case hg => rfl); (case hr => first | (go_simp; done) | (go_simp; rfl)); (case hp => exact (Reps.one (show Kd.FK (Kd.slice 32 k32) _ _ t248 [.slice Ao13 t248.length co13] from (Kd.FK_slice_mk (Kd.N_reads' (Kd.N_mono (ok' := (fun k_ => some k_ ≠ (v246 : Value).ownBlock)) (HO250.out) (fun k_ hk => hk.1))).2.1 (Kd.N_F (Kd.N_mono (ok' := (fun k_ => some k_ ≠ (v246 : Value).ownBlock)) (HO250.out) (fun k_ hk => hk.1))))) (Reps.one (show Kd.FK (Kd.slice 32 k32) _ _ t251 [.slice Ao14 t251.length co14] from (Kd.FK_slice_mk (Kd.N_reads' (Kd.N_mono (ok' := (fun k_ => some k_ ≠ (v246 : Value).ownBlock)) (HO253.out) (fun k_ hk => hk.1))).2.1 (Kd.N_F (Kd.N_mono (ok' := (fun k_ => some k_ ≠ (v246 : Value).ownBlock)) (HO253.out) (fun k_ hk => hk.1))))) (Reps.none _ _)))); intro v255 w15 ho16 hb hg_ hnew_; clear hg_ hnew_; (first | rw [← Ny254.out] at ho16 | (simp only [Int.reduceToNat] at ho16; rw [← Ny254.out] at ho16)); have n0_ := Aside0.mk (Kd.R_below (zr HO247.out) hb); have n1_ := Aside0.mk (Kd.N_lower ho16 (below_size J0)); have n2_ := Aside0.mk (below_step J0 hb); clear HO247; clear HB; clear HO250; clear HO253; have HO247 := n0_; have HO256 := n1_; have HB := n2_; clear n0_ n1_ n2_; clear hb ho16; obtain ⟨Ao17, co17, eo17⟩ := Kd.R_slice HO247.out; subst eo17; obtain ⟨Ao18, co18, eo18⟩ := Kd.N_slice HO256.out; subst eo18) | ((first | ((with_reducible refine gate_callee (f := 26) rfl ?_); refine goesL_ (some 13) rfl rfl Try.func26 J8 rfl #[.slice Ao17 y245.length co17, .slice Ao18 y254.length co18] rfl J1 ?_) | go_at_call 26); (with_reducible refine (array_Nest.calls k (fun k_ => some k_ = (.slice Ao17 y245.length co17 : Value).ownBlock) _ _ y245 (fun k_ => some k_ ≠ (.slice Ao17 y245.length co17 : Value).ownBlock) _ _ y254 t257 t260 _ ?side1 ?side2 A3.out).mono ?_); (case side1 => exact Kd.R_V (Kd.R_tight rfl (Kd.R_apart' (HO247.out) (Kd.N_typed HO256.out) J17))); (case side2 => exact Kd.N_V (HO256.out)); rintro e w19 ⟨v258, rfl, ho0, hb⟩; (try refine ⟨_, rfl, ?_⟩); have n0_ := Aside0.mk (Kd.R_below (zr HO247.out) hb); have n1_ := Aside0.mk (Kd.N_elder' (zn HO256.out) (Kd.N_base ho0) hb); have n2_ := Aside0.mk (Kd.N_lower (Kd.N_mono (ok' := fun k_ => some k_ ≠ (.slice Ao17 y245.length co17 : Value).ownBlock ∧ some k_ ≠ (.slice Ao18 y254.length co18 : Value).ownBlock) ho0 (fun k_ hk_ => ⟨(Kd.fresh' (Kd.R_lt (zr HO247.out)) k_ hk_), (Kd.fresh' (Kd.N_lt (zn HO256.out)) k_ hk_)⟩)) (below_size J0)); have n3_ := Aside0.mk (below_step J0 hb); clear HO247; clear HO256; clear HB; have HO247 := n0_; have HO256 := n1_; have HO259 := n2_; have HB := n3_; clear n0_ n1_ n2_ n3_; (try clear hb); (try clear hb2); (try clear hk); (try clear hi); (try clear ho0)) | ((with_reducible refine gate_dst (N := 17) rfl ?_); (try (refine gate_guard J38 ?_; dsimp only)); refine Kd.R_lit (Kd.int .i64) _ 3 ?hg (N := 17) ?hd (xs := ([2] : List Int)) (inner := [.int .i64 2]) (ok := fun _ => True) (okp := fun _ => True) ?hr ?hp (fun _ hk => hk) trivial (Below.refl _ _) (Nat.le_refl _) J21 ?_; (case hd => rfl); (case hg => rfl); (case hr => first | (go_simp; done) | (go_simp; rfl)); (case hp => exact (Reps.one (show Kd.M (Kd.int .i64) _ _ _ 2 [.int .i64 2] from rfl) (Reps.none _ _))); intro v262 w20 ho21 hb hg_ hnew_; clear hg_ hnew_; (first | rw [← Ny261.out] at ho21 | (simp only [Int.reduceToNat] at ho21; rw [← Ny261.out] at ho21)); have n0_ := Aside0.mk (Kd.R_elder' (zr HO247.out) (Kd.R_base ho21) hb); have n1_ := Aside0.mk (Kd.N_elder' (zn HO256.out) (Kd.R_base ho21) hb); have n2_ := Aside0.mk (Kd.N_elder' (zn HO259.out) (Kd.R_base ho21) hb); have n3_ := Aside0.mk (Kd.R_lower (Kd.R_new' ho21 (Kd.R_lt (zr HO247.out))) (below_size J0)); have n4_ := Aside0.mk (below_step J0 hb); clear HO247; clear HO256; clear HO259; clear HB; have HO247 := n0_; have HO256 := n1_; have HO259 := n2_; have HO263 := n3_; have HB := n4_; clear n0_ n1_ n2_ n3_ n4_; clear hb ho21) | ((first | ((with_reducible refine gate_callee (f := 27) rfl ?_); refine goesL_ (some 18) rfl rfl Try.func27 J8 rfl #[.int .i64 3] rfl J1 ?_) | go_at_call 27); (with_reducible refine (decklelaw10_one.calls 3 t264 _ A4.out).mono ?_); rintro e w22 ⟨v265, rfl, ho0, hb⟩; (try refine ⟨_, rfl, ?_⟩); have n0_ := Aside0.mk (Kd.R_below (zr HO247.out) hb); have n1_ := Aside0.mk (Kd.N_elder' (zn HO256.out) (Kd.N_base ho0) hb); have n2_ := Aside0.mk (Kd.N_elder' (zn HO259.out) (Kd.N_base ho0) hb); have n3_ := Aside0.mk (Kd.R_below (zr HO263.out) hb); have n4_ := Aside0.mk (Kd.N_lower (Kd.N_mono (ok' := fun k_ => some k_ ≠ (.slice Ao17 y245.length co17 : Value).ownBlock ∧ some k_ ≠ (.slice Ao18 y254.length co18 : Value).ownBlock ∧ some k_ ≠ (v258 : Value).ownBlock ∧ some k_ ≠ (v262 : Value).ownBlock) ho0 (fun k_ hk_ => ⟨(Kd.fresh' (Kd.R_lt (zr HO247.out)) k_ hk_), (Kd.fresh' (Kd.N_lt (zn HO256.out)) k_ hk_), (Kd.fresh' (Kd.N_lt (zn HO259.out)) k_ hk_), (Kd.fresh' (Kd.R_lt (zr HO263.out)) k_ hk_)⟩)) (below_size J0)); have n5_ := Aside0.mk (below_step J0 hb); clear HO247; clear HO256; clear HO259; clear HO263; clear HB; have HO247 := n0_; have HO256 := n1_; have HO259 := n2_; have HO263 := n3_; have HO266 := n4_; have HB := n5_; clear n0_ n1_ n2_ n3_ n4_ n5_; (try clear hb); (try clear hb2); (try clear hk); (try clear hi); (try clear ho0); obtain ⟨Ao23, co23, eo23⟩ := Kd.N_slice HO266.out; subst eo23) | ((with_reducible refine gate_dst (N := 19) rfl ?_); (try (refine gate_guard J38 ?_; dsimp only)); refine Kd.N_lit (Kd.slice 32 k32) _ 22 ?hg (N' := 19) ?hd (xs := ([t264] : List (List (S32)))) (inner := [.slice Ao23 t264.length co23]) (ok := (fun k_ => some k_ ≠ (.slice Ao17 y245.length co17 : Value).ownBlock ∧ some k_ ≠ (.slice Ao18 y254.length co18 : Value).ownBlock ∧ some k_ ≠ (v258 : Value).ownBlock ∧ some k_ ≠ (v262 : Value).ownBlock)) (okp := (fun k_ => some k_ ≠ (.slice Ao17 y245.length co17 : Value).ownBlock ∧ some k_ ≠ (.slice Ao18 y254.length co18 : Value).ownBlock ∧ some k_ ≠ (v258 : Value).ownBlock ∧ some k_ ≠ (v262 : Value).ownBlock)) ?hr ?hp (fun _ hk => hk) ((show ∀ k_, w22.heap.size ≤ k_ → (fun k_ => some k_ ≠ (.slice Ao17 y245.length co17 : Value).ownBlock ∧ some k_ ≠ (.slice Ao18 y254.length co18 : Value).ownBlock ∧ some k_ ≠ (v258 : Value).ownBlock ∧ some k_ ≠ (v262 : Value).ownBlock) k_ from fun k_ hk => ⟨Kd.fresh' (Kd.R_lt (zr HO247.out)) k_ hk, Kd.fresh' (Kd.N_lt (zn HO256.out)) k_ hk, Kd.fresh' (Kd.N_lt (zn HO259.out)) k_ hk, Kd.fresh' (Kd.R_lt (zr HO263.out)) k_ hk⟩) _ (Nat.le_refl _)) (Below.refl _ _) (Nat.le_refl _) J21 ?_; (case hd => rfl); (case hg => rfl); (case hr => first | (go_simp; done) | (go_simp; rfl)); (case hp => exact (Reps.one (show Kd.FK (Kd.slice 32 k32) _ _ t264 [.slice Ao23 t264.length co23] from (Kd.FK_slice_mk (Kd.N_reads' (Kd.N_mono (ok' := (fun k_ => some k_ ≠ (.slice Ao17 y245.length co17 : Value).ownBlock ∧ some k_ ≠ (.slice Ao18 y254.length co18 : Value).ownBlock ∧ some k_ ≠ (v258 : Value).ownBlock ∧ some k_ ≠ (v262 : Value).ownBlock)) (HO266.out) (fun k_ hk => ⟨hk.1, ⟨hk.2.1, ⟨hk.2.2.1, hk.2.2.2⟩⟩⟩))).2.1 (Kd.N_F (Kd.N_mono (ok' := (fun k_ => some k_ ≠ (.slice Ao17 y245.length co17 : Value).ownBlock ∧ some k_ ≠ (.slice Ao18 y254.length co18 : Value).ownBlock ∧ some k_ ≠ (v258 : Value).ownBlock ∧ some k_ ≠ (v262 : Value).ownBlock)) (HO266.out) (fun k_ hk => ⟨hk.1, ⟨hk.2.1, ⟨hk.2.2.1, hk.2.2.2⟩⟩⟩))))) (Reps.none _ _))); intro v268 w24 ho25 hb hg_ hnew_; clear hg_ hnew_; (first | rw [← Ny267.out] at ho25 | (simp only [Int.reduceToNat] at ho25; rw [← Ny267.out] at ho25)); have n0_ := Aside0.mk (Kd.R_below (zr HO247.out) hb); have n1_ := Aside0.mk (Kd.N_elder' (zn HO256.out) (Kd.N_base ho25) hb); have n2_ := Aside0.mk (Kd.N_elder' (zn HO259.out) (Kd.N_base ho25) hb); have n3_ := Aside0.mk (Kd.R_below (zr HO263.out) hb); have n4_ := Aside0.mk (Kd.N_lower ho25 (below_size J0)); have n5_ := Aside0.mk (below_step J0 hb); clear HO247; clear HO256; clear HO259; clear HO263; clear HB; clear HO266; have HO247 := n0_; have HO256 := n1_; have HO259 := n2_; have HO263 := n3_; have HO269 := n4_; have HB := n5_; clear n0_ n1_ n2_ n3_ n4_ n5_; clear hb ho25; obtain ⟨Ao26, co26, eo26⟩ := Kd.R_slice HO263.out; subst eo26; obtain ⟨Ao27, co27, eo27⟩ := Kd.N_slice HO269.out; subst eo27) | ((first | ((with_reducible refine gate_callee (f := 26) rfl ?_); refine goesL_ (some 20) rfl rfl Try.func26 J8 rfl #[.slice Ao26 y261.length co26, .slice Ao27 y267.length co27] rfl J1 ?_) | go_at_call 26); (with_reducible refine (array_Nest.calls k (fun k_ => some k_ = (.slice Ao26 y261.length co26 : Value).ownBlock) _ _ y261 (fun k_ => (some k_ ≠ (.slice Ao17 y245.length co17 : Value).ownBlock ∧ (some k_ ≠ (.slice Ao18 y254.length co18 : Value).ownBlock ∧ (some k_ ≠ (v258 : Value).ownBlock ∧ some k_ ≠ (.slice Ao26 y261.length co26 : Value).ownBlock)))) _ _ y267 t270 t273 _ ?side1 ?side2 A5.out).mono ?_); (case side1 => exact Kd.R_V (Kd.R_tight rfl (Kd.R_apart' (Kd.R_apart' (Kd.R_apart' (HO263.out) (Kd.N_typed HO256.out) J17) (Kd.N_typed HO259.out) J17) (Kd.N_typed HO269.out) J17))); (case side2 => exact Kd.N_V (HO269.out)); rintro e w28 ⟨v271, rfl, ho0, hb⟩; (try refine ⟨_, rfl, ?_⟩); have n0_ := Aside0.mk (Kd.R_below (zr HO247.out) hb); have n1_ := Aside0.mk (Kd.N_elder' (zn HO256.out) (Kd.N_base ho0) hb); have n2_ := Aside0.mk (Kd.N_elder' (zn HO259.out) (Kd.N_base ho0) hb); have n3_ := Aside0.mk (Kd.R_below (zr HO263.out) hb); have n4_ := Aside0.mk (Kd.N_elder' (zn HO269.out) (Kd.N_base ho0) hb); have n5_ := Aside0.mk (Kd.N_lower (Kd.N_mono (ok' := fun k_ => some k_ ≠ (.slice Ao17 y245.length co17 : Value).ownBlock ∧ some k_ ≠ (.slice Ao18 y254.length co18 : Value).ownBlock ∧ some k_ ≠ (v258 : Value).ownBlock ∧ some k_ ≠ (.slice Ao26 y261.length co26 : Value).ownBlock ∧ some k_ ≠ (.slice Ao27 y267.length co27 : Value).ownBlock) ho0 (fun k_ hk_ => ⟨(Kd.fresh' (Kd.R_lt (zr HO247.out)) k_ hk_), (Kd.fresh' (Kd.N_lt (zn HO256.out)) k_ hk_), (Kd.fresh' (Kd.N_lt (zn HO259.out)) k_ hk_), (Kd.fresh' (Kd.R_lt (zr HO263.out)) k_ hk_), (Kd.fresh' (Kd.N_lt (zn HO269.out)) k_ hk_)⟩)) (below_size J0)); have n6_ := Aside0.mk (below_step J0 hb); clear HO247; clear HO256; clear HO259; clear HO263; clear HO269; clear HB; have HO247 := n0_; have HO256 := n1_; have HO259 := n2_; have HO263 := n3_; have HO269 := n4_; have HO272 := n5_; have HB := n6_; clear n0_ n1_ n2_ n3_ n4_ n5_ n6_; (try clear hb); (try clear hb2); (try clear hk); (try clear hi); (try clear ho0)) | ((with_reducible refine gate_dst (N := 24) rfl ?_); (try (refine gate_guard J38 ?_; dsimp only)); refine Kd.R_lit (Kd.int .i64) _ 3 ?hg (N := 24) ?hd (xs := ([0] : List Int)) (inner := [.int .i64 0]) (ok := fun _ => True) (okp := fun _ => True) ?hr ?hp (fun _ hk => hk) trivial (Below.refl _ _) (Nat.le_refl _) J21 ?_; (case hd => rfl); (case hg => rfl); (case hr => first | (go_simp; done) | (go_simp; rfl)); (case hp => exact (Reps.one (show Kd.M (Kd.int .i64) _ _ _ 0 [.int .i64 0] from rfl) (Reps.none _ _))); intro v275 w29 ho30 hb hg_ hnew_; clear hg_ hnew_; (first | rw [← Ny274.out] at ho30 | (simp only [Int.reduceToNat] at ho30; rw [← Ny274.out] at ho30)); have n0_ := Aside0.mk (Kd.R_elder' (zr HO247.out) (Kd.R_base ho30) hb); have n1_ := Aside0.mk (Kd.N_elder' (zn HO256.out) (Kd.R_base ho30) hb); have n2_ := Aside0.mk (Kd.N_elder' (zn HO259.out) (Kd.R_base ho30) hb); have n3_ := Aside0.mk (Kd.R_elder' (zr HO263.out) (Kd.R_base ho30) hb); have n4_ := Aside0.mk (Kd.N_elder' (zn HO269.out) (Kd.R_base ho30) hb); have n5_ := Aside0.mk (Kd.N_elder' (zn HO272.out) (Kd.R_base ho30) hb); have n6_ := Aside0.mk (Kd.R_lower (Kd.R_new' (Kd.R_new' ho30 (Kd.R_lt (zr HO247.out))) (Kd.R_lt (zr HO263.out))) (below_size J0)); have n7_ := Aside0.mk (below_step J0 hb); clear HO247; clear HO256; clear HO259; clear HO263; clear HO269; clear HO272; clear HB; have HO247 := n0_; have HO256 := n1_; have HO259 := n2_; have HO263 := n3_; have HO269 := n4_; have HO272 := n5_; have HO276 := n6_; have HB := n7_; clear n0_ n1_ n2_ n3_ n4_ n5_ n6_ n7_; clear hb ho30; obtain ⟨Ao31, co31, eo31⟩ := Kd.R_slice HO276.out; subst eo31) | ((with_reducible refine gate_callee (f := 26) rfl ?_); refine goesL_ (some 25) rfl rfl Try.func26 J8 rfl #[.slice Ao31 y274.length co31, .slice none 0 0] rfl J1 ?_; (refine (array_Nest.calls k (fun k_ => some k_ = (.slice Ao31 y274.length co31 : Value).ownBlock) _ _ y274 (fun k_ => False) _ _ ([] : List (List (S32))) t277 t280 _ ?side1 ?side2 A6.out).mono ?_); (case side1 => exact Kd.R_V (Kd.R_tight rfl (Kd.R_apart' (Kd.R_apart' (Kd.R_apart' (Kd.R_apart' (HO276.out) (Kd.N_typed HO256.out) J17) (Kd.N_typed HO259.out) J17) (Kd.N_typed HO269.out) J17) (Kd.N_typed HO272.out) J17))); (case side2 => exact Kd.V_nil _ _ _ _ _); rintro e w32 ⟨v278, rfl, ho0, hb⟩; refine ⟨_, rfl, ?_⟩; have n0_ := Aside0.mk (Kd.R_below (zr HO247.out) hb); have n1_ := Aside0.mk (Kd.N_elder' (zn HO256.out) (Kd.N_base ho0) hb); have n2_ := Aside0.mk (Kd.N_elder' (zn HO259.out) (Kd.N_base ho0) hb); have n3_ := Aside0.mk (Kd.R_below (zr HO263.out) hb); have n4_ := Aside0.mk (Kd.N_elder' (zn HO269.out) (Kd.N_base ho0) hb); have n5_ := Aside0.mk (Kd.N_elder' (zn HO272.out) (Kd.N_base ho0) hb); have n6_ := Aside0.mk (Kd.R_below (zr HO276.out) hb); have n7_ := Aside0.mk (Kd.N_lower (Kd.N_mono (ok' := fun k_ => some k_ ≠ (.slice Ao17 y245.length co17 : Value).ownBlock ∧ some k_ ≠ (.slice Ao18 y254.length co18 : Value).ownBlock ∧ some k_ ≠ (v258 : Value).ownBlock ∧ some k_ ≠ (.slice Ao26 y261.length co26 : Value).ownBlock ∧ some k_ ≠ (.slice Ao27 y267.length co27 : Value).ownBlock ∧ some k_ ≠ (v271 : Value).ownBlock ∧ some k_ ≠ (.slice Ao31 y274.length co31 : Value).ownBlock) ho0 (fun k_ hk_ => ⟨(Kd.fresh' (Kd.R_lt (zr HO247.out)) k_ hk_), (Kd.fresh' (Kd.N_lt (zn HO256.out)) k_ hk_), (Kd.fresh' (Kd.N_lt (zn HO259.out)) k_ hk_), (Kd.fresh' (Kd.R_lt (zr HO263.out)) k_ hk_), (Kd.fresh' (Kd.N_lt (zn HO269.out)) k_ hk_), (Kd.fresh' (Kd.N_lt (zn HO272.out)) k_ hk_), (Kd.fresh' (Kd.R_lt (zr HO276.out)) k_ hk_)⟩)) (below_size J0)); have n8_ := Aside0.mk (below_step J0 hb); clear HO247; clear HO256; clear HO259; clear HO263; clear HO269; clear HO272; clear HO276; clear HB; have HO247 := n0_; have HO256 := n1_; have HO259 := n2_; have HO263 := n3_; have HO269 := n4_; have HO272 := n5_; have HO276 := n6_; have HO279 := n7_; have HB := n8_; clear n0_ n1_ n2_ n3_ n4_ n5_ n6_ n7_ n8_; (try clear hb); (try clear hb2); (try clear hk); (try clear hi); (try clear ho0); obtain ⟨Ao33, co33, eo33⟩ := Kd.N_slice HO259.out; subst eo33) | ((first | ((with_reducible refine gate_callee (f := 10) rfl ?_); refine goesL_ (some 29) rfl rfl Try.func10 J8 rfl #[.slice Ao33 t257.length co33] rfl J1 ?_) | go_at_call 10); (with_reducible refine (array_Kids.calls k (fun k_ => (((((((some k_ ≠ (.slice Ao17 y245.length co17 : Value).ownBlock ∧ some k_ ≠ (.slice Ao18 y254.length co18 : Value).ownBlock) ∧ some k_ ≠ (.slice Ao26 y261.length co26 : Value).ownBlock) ∧ some k_ ≠ (.slice Ao23 t264.length co23 : Value).ownBlock) ∧ some k_ ≠ (.slice Ao27 y267.length co27 : Value).ownBlock) ∧ some k_ ≠ (v271 : Value).ownBlock) ∧ some k_ ≠ (.slice Ao31 y274.length co31 : Value).ownBlock) ∧ some k_ ≠ (v278 : Value).ownBlock)) _ _ t257 t281 _ ?side1 A7.out).mono ?_); (case side1 => exact Kd.N_V (HO259.out)); rintro e w34 ⟨v282, rfl, ho0, hb⟩; (try refine ⟨_, rfl, ?_⟩); have n0_ := Aside0.mk (Kd.R_below (zr HO247.out) hb); have n1_ := Aside0.mk (Kd.N_elder' (zn HO256.out) (Kd.N_base ho0) hb); have n2_ := Aside0.mk (Kd.N_elder' (zn HO259.out) (Kd.N_base ho0) hb); have n3_ := Aside0.mk (Kd.R_below (zr HO263.out) hb); have n4_ := Aside0.mk (Kd.N_elder' (zn HO269.out) (Kd.N_base ho0) hb); have n5_ := Aside0.mk (Kd.N_elder' (zn HO272.out) (Kd.N_base ho0) hb); have n6_ := Aside0.mk (Kd.R_below (zr HO276.out) hb); have n7_ := Aside0.mk (Kd.N_elder' (zn HO279.out) (Kd.N_base ho0) hb); have n8_ := Aside0.mk (Kd.N_lower (Kd.N_mono (ok' := fun k_ => some k_ ≠ (.slice Ao17 y245.length co17 : Value).ownBlock ∧ some k_ ≠ (.slice Ao18 y254.length co18 : Value).ownBlock ∧ some k_ ≠ (.slice Ao33 t257.length co33 : Value).ownBlock ∧ some k_ ≠ (.slice Ao26 y261.length co26 : Value).ownBlock ∧ some k_ ≠ (.slice Ao27 y267.length co27 : Value).ownBlock ∧ some k_ ≠ (v271 : Value).ownBlock ∧ some k_ ≠ (.slice Ao31 y274.length co31 : Value).ownBlock ∧ some k_ ≠ (v278 : Value).ownBlock) ho0 (fun k_ hk_ => ⟨(Kd.fresh' (Kd.R_lt (zr HO247.out)) k_ hk_), (Kd.fresh' (Kd.N_lt (zn HO256.out)) k_ hk_), (Kd.fresh' (Kd.N_lt (zn HO259.out)) k_ hk_), (Kd.fresh' (Kd.R_lt (zr HO263.out)) k_ hk_), (Kd.fresh' (Kd.N_lt (zn HO269.out)) k_ hk_), (Kd.fresh' (Kd.N_lt (zn HO272.out)) k_ hk_), (Kd.fresh' (Kd.R_lt (zr HO276.out)) k_ hk_), (Kd.fresh' (Kd.N_lt (zn HO279.out)) k_ hk_)⟩)) (below_size J0)); have n9_ := Aside0.mk (below_step J0 hb); clear HO247; clear HO256; clear HO259; clear HO263; clear HO269; clear HO272; clear HO276; clear HO279; clear HB; have HO247 := n0_; have HO256 := n1_; have HO259 := n2_; have HO263 := n3_; have HO269 := n4_; have HO272 := n5_; have HO276 := n6_; have HO279 := n7_; have HO283 := n8_; have HB := n9_; clear n0_ n1_ n2_ n3_ n4_ n5_ n6_ n7_ n8_ n9_; (try clear hb); (try clear hb2); (try clear hk); (try clear hi); (try clear ho0)))
  (try simp only [Act.put, List.setIfInBounds_toArray, List.set_cons_zero, List.set_cons_succ])
  go_cut [37] (fun v37 wc => ∃ (kq : Nat) (x37_7 : Bool), v37 = .bool x37_7 ∧ Aside0 (decklelaw10_small.j0 kq t257 t260 t273 t277 t280 t281 x37_7 = some r) ∧ Aside0 (kq ≤ k) ∧ Aside0 (Kd.N k32 32 wc w.heap.size (fun k_ => some k_ ≠ (v278 : Value).ownBlock ∧ some k_ ≠ (v282 : Value).ownBlock) (.slice Ao33 t257.length co33) t257) ∧ Aside0 (Kd.N k32 32 wc w.heap.size (fun k_ => some k_ ≠ ((.slice Ao33 t257.length co33) : Value).ownBlock ∧ some k_ ≠ (v282 : Value).ownBlock) v278 t277) ∧ Aside0 (Kd.N (Kd.slice 32 k32) 22 wc w.heap.size (fun k_ => some k_ ≠ ((.slice Ao33 t257.length co33) : Value).ownBlock ∧ some k_ ≠ (v278 : Value).ownBlock) v282 t281) ∧ Aside0 (Below w.heap.size w wc))
  case first =>
    have H := HC8.out
    clear HC8
    by_cases c35 : (t257.length : Int) = 3
    rotate_left
    · rw [if_neg c35] at H
      have c35b0 : ((t257.length : Int) == 3) = false := beq_eq_false_iff_ne.mpr c35
      have c35b1 : ((t257.length : Int) != 3) = true := bne_iff_ne.mpr c35
      (first | rw [c35b0] | (simp only [i64_w, i32_w]; rw [c35b0]) | skip)
      have H' := Aside0.mk H
      clear H
      go_wp2
      go_meet
      case rel => exact ⟨_, (true), J5, H', ⟨J23⟩, ⟨J57⟩, ⟨J56⟩, ⟨J54⟩, ⟨J0⟩⟩
    rw [if_pos c35] at H
    have c35b0 : ((t257.length : Int) == 3) = true := beq_iff_eq.mpr c35
    have c35b1 : ((t257.length : Int) != 3) = false := bne_eq_false_iff_eq.mpr c35
    clear c35
    (first | rw [c35b0] | (simp only [i64_w, i32_w]; rw [c35b0]) | skip)
    have H' := Aside0.mk H
    clear H
    obtain ⟨Ao36, co36, eo36⟩ := Kd.N_slice HO283.out
    subst eo36
    go_wp2
    go_meet
    case rel => exact ⟨_, (((t281.length : Int) != 2)), J5, H', ⟨J23⟩, ⟨J57⟩, ⟨J56⟩, ⟨J54⟩, ⟨J0⟩⟩
  case rest =>
    clear HC8
    try clear c1
    try clear c2
    try clear p2
    try clear c3
    try clear c8
    try clear c10
    try clear c26
    try clear c27
    try clear c35
    try clear c35b0
    try clear c35b1
    obtain ⟨kq, x37_7, rfl, HA, HJ7, HO_1, HO_5, HO_7, HB⟩ := hcut
    cases kq with
    | zero => exact absurd HA.out (by simp [decklelaw10_small.j0])
    | succ kj7 =>
      have H := HA.out
      clear HA
      simp only [decklelaw10_small.j0] at H
      by_cases c37 : x37_7 = true
      · subst c37
        have H1 : (none) = some r := J14
        clear H
        have H := H1
        clear H1
        exact absurd H J21
      replace c37 := Bool.eq_false_iff.mpr c37
      subst c37
      have H1 : (if t260 = true then (if t273 = true then (none) else (if t280 = true then (if (t277.length : Int) = 1 then ((array_Right.f kj7 t257).bind fun t284 => (if t284 = true then ((array_Right.f kj7 t277).bind fun t285 => (if t285 = true then (if 2 ≤ (t257.length : Int) then ((array_Right.f kj7 (t257.take 2)).bind fun t291 => (if t291 = true then (none) else ((array_Right.f kj7 ([] : List (S32))).bind fun t292 => (if t292 = true then (none) else ((array_Copy.f t257).bind fun t293 => ((decklelaw10_one.f 5).bind fun t296 => (if t293.length + t296.length < 1759218604441 then ((array_Take.f kj7 (t293 ++ t296)).bind fun t302 => (if t302 = 3 then ((array_Items.f kj7 t257).bind fun t303 => (if t303 = 4 then ((array_Depth.f kj7 t257).bind fun t304 => (if t304 = 2 then ((array_Depth.f kj7 t277).bind fun t305 => (if t305 = 1 then ((array_Rank.f kj7 t257).bind fun t306 => (if t306 = 1 then ((array_Items.f kj7 (t257.take 2)).bind fun t312 => (if t312 = 0 then (if 1 < (t281.length : Int) then ((decklelaw10_one.f 4).bind fun t314 => ((array_Same.f kj7 (rd_L5 t281 1) t314).bind fun t317 => (if t317 = true then ((decklelaw10_one.f 3).bind fun t318 => ((decklelaw10_one.f 4).bind fun t321 => ((array_Same.f kj7 t318 t321).bind fun t324 => (if t324 = true then (none) else ((array_Right.f kj7 (([(⟨1, ([] : List Int), (([2] : List Int)), ([] : List (S41))⟩ : S32)] : List (S32)))).bind fun t331 => (if t331 = true then (none) else ((array_Right.f kj7 (([(⟨2, ([] : List Int), ([] : List Int), ([] : List (S41))⟩ : S32)] : List (S32)))).bind fun t335 => (if t335 = true then (none) else ((array_Right.f kj7 (([(⟨4, ([] : List Int), ([] : List Int), (([(⟨10, 0⟩ : S41)] : List (S41)))⟩ : S32)] : List (S32)))).bind fun t342 => (if t342 = true then (none) else ((array_Right.f kj7 (([(⟨3, (([0, 3] : List Int)), ([] : List Int), ([] : List (S41))⟩ : S32)] : List (S32)))).bind fun t349 => (some t349)))))))))))) else (none)))) else (none)) else (none))) else (none))) else (none))) else (none))) else (none))) else (none))) else (none)))))))) else (none)) else (none))) else (none))) else (none)) else (none))) else (none)) = some r := J7
      clear H
      have H := H1
      clear H1
      by_cases c38 : t260 = true
      rotate_left
      · replace c38 := Bool.eq_false_iff.mpr c38
        subst c38
        have H1 : (none) = some r := J7
        clear H
        have H := H1
        clear H1
        exact absurd H J21
      subst c38
      have H1 : (if t273 = true then (none) else (if t280 = true then (if (t277.length : Int) = 1 then ((array_Right.f kj7 t257).bind fun t284 => (if t284 = true then ((array_Right.f kj7 t277).bind fun t285 => (if t285 = true then (if 2 ≤ (t257.length : Int) then ((array_Right.f kj7 (t257.take 2)).bind fun t291 => (if t291 = true then (none) else ((array_Right.f kj7 ([] : List (S32))).bind fun t292 => (if t292 = true then (none) else ((array_Copy.f t257).bind fun t293 => ((decklelaw10_one.f 5).bind fun t296 => (if t293.length + t296.length < 1759218604441 then ((array_Take.f kj7 (t293 ++ t296)).bind fun t302 => (if t302 = 3 then ((array_Items.f kj7 t257).bind fun t303 => (if t303 = 4 then ((array_Depth.f kj7 t257).bind fun t304 => (if t304 = 2 then ((array_Depth.f kj7 t277).bind fun t305 => (if t305 = 1 then ((array_Rank.f kj7 t257).bind fun t306 => (if t306 = 1 then ((array_Items.f kj7 (t257.take 2)).bind fun t312 => (if t312 = 0 then (if 1 < (t281.length : Int) then ((decklelaw10_one.f 4).bind fun t314 => ((array_Same.f kj7 (rd_L5 t281 1) t314).bind fun t317 => (if t317 = true then ((decklelaw10_one.f 3).bind fun t318 => ((decklelaw10_one.f 4).bind fun t321 => ((array_Same.f kj7 t318 t321).bind fun t324 => (if t324 = true then (none) else ((array_Right.f kj7 (([(⟨1, ([] : List Int), (([2] : List Int)), ([] : List (S41))⟩ : S32)] : List (S32)))).bind fun t331 => (if t331 = true then (none) else ((array_Right.f kj7 (([(⟨2, ([] : List Int), ([] : List Int), ([] : List (S41))⟩ : S32)] : List (S32)))).bind fun t335 => (if t335 = true then (none) else ((array_Right.f kj7 (([(⟨4, ([] : List Int), ([] : List Int), (([(⟨10, 0⟩ : S41)] : List (S41)))⟩ : S32)] : List (S32)))).bind fun t342 => (if t342 = true then (none) else ((array_Right.f kj7 (([(⟨3, (([0, 3] : List Int)), ([] : List Int), ([] : List (S41))⟩ : S32)] : List (S32)))).bind fun t349 => (some t349)))))))))))) else (none)))) else (none)) else (none))) else (none))) else (none))) else (none))) else (none))) else (none))) else (none)))))))) else (none)) else (none))) else (none))) else (none)) else (none))) = some r := J14
      clear H
      have H := H1
      clear H1
      by_cases c39 : t273 = true
      · subst c39
        have H1 : (none) = some r := J14
        clear H
        have H := H1
        clear H1
        exact absurd H J21
      replace c39 := Bool.eq_false_iff.mpr c39
      subst c39
      have H1 : (if t280 = true then (if (t277.length : Int) = 1 then ((array_Right.f kj7 t257).bind fun t284 => (if t284 = true then ((array_Right.f kj7 t277).bind fun t285 => (if t285 = true then (if 2 ≤ (t257.length : Int) then ((array_Right.f kj7 (t257.take 2)).bind fun t291 => (if t291 = true then (none) else ((array_Right.f kj7 ([] : List (S32))).bind fun t292 => (if t292 = true then (none) else ((array_Copy.f t257).bind fun t293 => ((decklelaw10_one.f 5).bind fun t296 => (if t293.length + t296.length < 1759218604441 then ((array_Take.f kj7 (t293 ++ t296)).bind fun t302 => (if t302 = 3 then ((array_Items.f kj7 t257).bind fun t303 => (if t303 = 4 then ((array_Depth.f kj7 t257).bind fun t304 => (if t304 = 2 then ((array_Depth.f kj7 t277).bind fun t305 => (if t305 = 1 then ((array_Rank.f kj7 t257).bind fun t306 => (if t306 = 1 then ((array_Items.f kj7 (t257.take 2)).bind fun t312 => (if t312 = 0 then (if 1 < (t281.length : Int) then ((decklelaw10_one.f 4).bind fun t314 => ((array_Same.f kj7 (rd_L5 t281 1) t314).bind fun t317 => (if t317 = true then ((decklelaw10_one.f 3).bind fun t318 => ((decklelaw10_one.f 4).bind fun t321 => ((array_Same.f kj7 t318 t321).bind fun t324 => (if t324 = true then (none) else ((array_Right.f kj7 (([(⟨1, ([] : List Int), (([2] : List Int)), ([] : List (S41))⟩ : S32)] : List (S32)))).bind fun t331 => (if t331 = true then (none) else ((array_Right.f kj7 (([(⟨2, ([] : List Int), ([] : List Int), ([] : List (S41))⟩ : S32)] : List (S32)))).bind fun t335 => (if t335 = true then (none) else ((array_Right.f kj7 (([(⟨4, ([] : List Int), ([] : List Int), (([(⟨10, 0⟩ : S41)] : List (S41)))⟩ : S32)] : List (S32)))).bind fun t342 => (if t342 = true then (none) else ((array_Right.f kj7 (([(⟨3, (([0, 3] : List Int)), ([] : List Int), ([] : List (S41))⟩ : S32)] : List (S32)))).bind fun t349 => (some t349)))))))))))) else (none)))) else (none)) else (none))) else (none))) else (none))) else (none))) else (none))) else (none))) else (none)))))))) else (none)) else (none))) else (none))) else (none)) else (none)) = some r := J7
      clear H
      have H := H1
      clear H1
      by_cases c40 : t280 = true
      rotate_left
      · replace c40 := Bool.eq_false_iff.mpr c40
        subst c40
        have H1 : (none) = some r := J7
        clear H
        have H := H1
        clear H1
        exact absurd H J21
      subst c40
      have H1 : (if (t277.length : Int) = 1 then ((array_Right.f kj7 t257).bind fun t284 => (if t284 = true then ((array_Right.f kj7 t277).bind fun t285 => (if t285 = true then (if 2 ≤ (t257.length : Int) then ((array_Right.f kj7 (t257.take 2)).bind fun t291 => (if t291 = true then (none) else ((array_Right.f kj7 ([] : List (S32))).bind fun t292 => (if t292 = true then (none) else ((array_Copy.f t257).bind fun t293 => ((decklelaw10_one.f 5).bind fun t296 => (if t293.length + t296.length < 1759218604441 then ((array_Take.f kj7 (t293 ++ t296)).bind fun t302 => (if t302 = 3 then ((array_Items.f kj7 t257).bind fun t303 => (if t303 = 4 then ((array_Depth.f kj7 t257).bind fun t304 => (if t304 = 2 then ((array_Depth.f kj7 t277).bind fun t305 => (if t305 = 1 then ((array_Rank.f kj7 t257).bind fun t306 => (if t306 = 1 then ((array_Items.f kj7 (t257.take 2)).bind fun t312 => (if t312 = 0 then (if 1 < (t281.length : Int) then ((decklelaw10_one.f 4).bind fun t314 => ((array_Same.f kj7 (rd_L5 t281 1) t314).bind fun t317 => (if t317 = true then ((decklelaw10_one.f 3).bind fun t318 => ((decklelaw10_one.f 4).bind fun t321 => ((array_Same.f kj7 t318 t321).bind fun t324 => (if t324 = true then (none) else ((array_Right.f kj7 (([(⟨1, ([] : List Int), (([2] : List Int)), ([] : List (S41))⟩ : S32)] : List (S32)))).bind fun t331 => (if t331 = true then (none) else ((array_Right.f kj7 (([(⟨2, ([] : List Int), ([] : List Int), ([] : List (S41))⟩ : S32)] : List (S32)))).bind fun t335 => (if t335 = true then (none) else ((array_Right.f kj7 (([(⟨4, ([] : List Int), ([] : List Int), (([(⟨10, 0⟩ : S41)] : List (S41)))⟩ : S32)] : List (S32)))).bind fun t342 => (if t342 = true then (none) else ((array_Right.f kj7 (([(⟨3, (([0, 3] : List Int)), ([] : List Int), ([] : List (S41))⟩ : S32)] : List (S32)))).bind fun t349 => (some t349)))))))))))) else (none)))) else (none)) else (none))) else (none))) else (none))) else (none))) else (none))) else (none))) else (none)))))))) else (none)) else (none))) else (none))) else (none)) = some r := J14
      clear H
      have H := H1
      clear H1
      by_cases c41 : (t277.length : Int) = 1
      rotate_left
      · rw [if_neg c41] at H
        exact absurd H J21
      rw [if_pos c41] at H
      have c41b0 : ((t277.length : Int) == 1) = true := beq_iff_eq.mpr c41
      have c41b1 : ((t277.length : Int) != 1) = false := bne_eq_false_iff_eq.mpr c41
      clear c41
      replace H := Option.bind_eq_some_iff.mp H
      obtain ⟨t284, A420, H⟩ := H
      have A42 := Aside0.mk A420
      clear A420
      by_cases c43 : t284 = true
      rotate_left
      · replace c43 := Bool.eq_false_iff.mpr c43
        subst c43
        have H1 : (none) = some r := J7
        clear H
        have H := H1
        clear H1
        exact absurd H J21
      subst c43
      have H1 : ((array_Right.f kj7 t277).bind fun t285 => (if t285 = true then (if 2 ≤ (t257.length : Int) then ((array_Right.f kj7 (t257.take 2)).bind fun t291 => (if t291 = true then (none) else ((array_Right.f kj7 ([] : List (S32))).bind fun t292 => (if t292 = true then (none) else ((array_Copy.f t257).bind fun t293 => ((decklelaw10_one.f 5).bind fun t296 => (if t293.length + t296.length < 1759218604441 then ((array_Take.f kj7 (t293 ++ t296)).bind fun t302 => (if t302 = 3 then ((array_Items.f kj7 t257).bind fun t303 => (if t303 = 4 then ((array_Depth.f kj7 t257).bind fun t304 => (if t304 = 2 then ((array_Depth.f kj7 t277).bind fun t305 => (if t305 = 1 then ((array_Rank.f kj7 t257).bind fun t306 => (if t306 = 1 then ((array_Items.f kj7 (t257.take 2)).bind fun t312 => (if t312 = 0 then (if 1 < (t281.length : Int) then ((decklelaw10_one.f 4).bind fun t314 => ((array_Same.f kj7 (rd_L5 t281 1) t314).bind fun t317 => (if t317 = true then ((decklelaw10_one.f 3).bind fun t318 => ((decklelaw10_one.f 4).bind fun t321 => ((array_Same.f kj7 t318 t321).bind fun t324 => (if t324 = true then (none) else ((array_Right.f kj7 (([(⟨1, ([] : List Int), (([2] : List Int)), ([] : List (S41))⟩ : S32)] : List (S32)))).bind fun t331 => (if t331 = true then (none) else ((array_Right.f kj7 (([(⟨2, ([] : List Int), ([] : List Int), ([] : List (S41))⟩ : S32)] : List (S32)))).bind fun t335 => (if t335 = true then (none) else ((array_Right.f kj7 (([(⟨4, ([] : List Int), ([] : List Int), (([(⟨10, 0⟩ : S41)] : List (S41)))⟩ : S32)] : List (S32)))).bind fun t342 => (if t342 = true then (none) else ((array_Right.f kj7 (([(⟨3, (([0, 3] : List Int)), ([] : List Int), ([] : List (S41))⟩ : S32)] : List (S32)))).bind fun t349 => (some t349)))))))))))) else (none)))) else (none)) else (none))) else (none))) else (none))) else (none))) else (none))) else (none))) else (none)))))))) else (none)) else (none))) = some r := J14
      clear H
      have H := H1
      clear H1
      replace H := Option.bind_eq_some_iff.mp H
      obtain ⟨t285, A440, H⟩ := H
      have A44 := Aside0.mk A440
      clear A440
      by_cases c45 : t285 = true
      rotate_left
      · replace c45 := Bool.eq_false_iff.mpr c45
        subst c45
        have H1 : (none) = some r := J7
        clear H
        have H := H1
        clear H1
        exact absurd H J21
      subst c45
      have H1 : (if 2 ≤ (t257.length : Int) then ((array_Right.f kj7 (t257.take 2)).bind fun t291 => (if t291 = true then (none) else ((array_Right.f kj7 ([] : List (S32))).bind fun t292 => (if t292 = true then (none) else ((array_Copy.f t257).bind fun t293 => ((decklelaw10_one.f 5).bind fun t296 => (if t293.length + t296.length < 1759218604441 then ((array_Take.f kj7 (t293 ++ t296)).bind fun t302 => (if t302 = 3 then ((array_Items.f kj7 t257).bind fun t303 => (if t303 = 4 then ((array_Depth.f kj7 t257).bind fun t304 => (if t304 = 2 then ((array_Depth.f kj7 t277).bind fun t305 => (if t305 = 1 then ((array_Rank.f kj7 t257).bind fun t306 => (if t306 = 1 then ((array_Items.f kj7 (t257.take 2)).bind fun t312 => (if t312 = 0 then (if 1 < (t281.length : Int) then ((decklelaw10_one.f 4).bind fun t314 => ((array_Same.f kj7 (rd_L5 t281 1) t314).bind fun t317 => (if t317 = true then ((decklelaw10_one.f 3).bind fun t318 => ((decklelaw10_one.f 4).bind fun t321 => ((array_Same.f kj7 t318 t321).bind fun t324 => (if t324 = true then (none) else ((array_Right.f kj7 (([(⟨1, ([] : List Int), (([2] : List Int)), ([] : List (S41))⟩ : S32)] : List (S32)))).bind fun t331 => (if t331 = true then (none) else ((array_Right.f kj7 (([(⟨2, ([] : List Int), ([] : List Int), ([] : List (S41))⟩ : S32)] : List (S32)))).bind fun t335 => (if t335 = true then (none) else ((array_Right.f kj7 (([(⟨4, ([] : List Int), ([] : List Int), (([(⟨10, 0⟩ : S41)] : List (S41)))⟩ : S32)] : List (S32)))).bind fun t342 => (if t342 = true then (none) else ((array_Right.f kj7 (([(⟨3, (([0, 3] : List Int)), ([] : List Int), ([] : List (S41))⟩ : S32)] : List (S32)))).bind fun t349 => (some t349)))))))))))) else (none)))) else (none)) else (none))) else (none))) else (none))) else (none))) else (none))) else (none))) else (none)))))))) else (none)) = some r := J14
      clear H
      have H := H1
      clear H1
      by_cases c46 : 2 ≤ (t257.length : Int)
      rotate_left
      · rw [if_neg c46] at H
        exact absurd H J21
      rw [if_pos c46] at H
      have c46b0 := eq_true c46
      have c46b1 := decide_eq_true c46
      clear c46
      obtain ⟨y286, hy286⟩ : ∃ y_ : List (S32), y_ = (t257.take 2) := ⟨_, rfl⟩
      replace H : ((array_Right.f kj7 y286).bind fun t291 => (if t291 = true then (none) else ((array_Right.f kj7 ([] : List (S32))).bind fun t292 => (if t292 = true then (none) else ((array_Copy.f t257).bind fun t293 => ((decklelaw10_one.f 5).bind fun t296 => (if t293.length + t296.length < 1759218604441 then ((array_Take.f kj7 (t293 ++ t296)).bind fun t302 => (if t302 = 3 then ((array_Items.f kj7 t257).bind fun t303 => (if t303 = 4 then ((array_Depth.f kj7 t257).bind fun t304 => (if t304 = 2 then ((array_Depth.f kj7 t277).bind fun t305 => (if t305 = 1 then ((array_Rank.f kj7 t257).bind fun t306 => (if t306 = 1 then ((array_Items.f kj7 (t257.take 2)).bind fun t312 => (if t312 = 0 then (if 1 < (t281.length : Int) then ((decklelaw10_one.f 4).bind fun t314 => ((array_Same.f kj7 (rd_L5 t281 1) t314).bind fun t317 => (if t317 = true then ((decklelaw10_one.f 3).bind fun t318 => ((decklelaw10_one.f 4).bind fun t321 => ((array_Same.f kj7 t318 t321).bind fun t324 => (if t324 = true then (none) else ((array_Right.f kj7 (([(⟨1, ([] : List Int), (([2] : List Int)), ([] : List (S41))⟩ : S32)] : List (S32)))).bind fun t331 => (if t331 = true then (none) else ((array_Right.f kj7 (([(⟨2, ([] : List Int), ([] : List Int), ([] : List (S41))⟩ : S32)] : List (S32)))).bind fun t335 => (if t335 = true then (none) else ((array_Right.f kj7 (([(⟨4, ([] : List Int), ([] : List Int), (([(⟨10, 0⟩ : S41)] : List (S41)))⟩ : S32)] : List (S32)))).bind fun t342 => (if t342 = true then (none) else ((array_Right.f kj7 (([(⟨3, (([0, 3] : List Int)), ([] : List Int), ([] : List (S41))⟩ : S32)] : List (S32)))).bind fun t349 => (some t349)))))))))))) else (none)))) else (none)) else (none))) else (none))) else (none))) else (none))) else (none))) else (none))) else (none)))))))) = some r := by first | (rw [hy286]; with_reducible exact H) | (have H2_ := (Option.bind_some _ _).symm.trans H; rw [hy286]; with_reducible exact H2_) | (have H2_ := (Option.bind_some _ _).symm.trans H; with_reducible exact H2_) | with_reducible exact H | (rw [hy286]; exact H) | exact H
      have Ny286 := Aside0.mk hy286
      clear hy286
      replace H := Option.bind_eq_some_iff.mp H
      obtain ⟨t291, A470, H⟩ := H
      have A47 := Aside0.mk A470
      clear A470
      by_cases c48 : t291 = true
      · subst c48
        have H1 : (none) = some r := J14
        clear H
        have H := H1
        clear H1
        exact absurd H J21
      replace c48 := Bool.eq_false_iff.mpr c48
      subst c48
      have H1 : ((array_Right.f kj7 ([] : List (S32))).bind fun t292 => (if t292 = true then (none) else ((array_Copy.f t257).bind fun t293 => ((decklelaw10_one.f 5).bind fun t296 => (if t293.length + t296.length < 1759218604441 then ((array_Take.f kj7 (t293 ++ t296)).bind fun t302 => (if t302 = 3 then ((array_Items.f kj7 t257).bind fun t303 => (if t303 = 4 then ((array_Depth.f kj7 t257).bind fun t304 => (if t304 = 2 then ((array_Depth.f kj7 t277).bind fun t305 => (if t305 = 1 then ((array_Rank.f kj7 t257).bind fun t306 => (if t306 = 1 then ((array_Items.f kj7 (t257.take 2)).bind fun t312 => (if t312 = 0 then (if 1 < (t281.length : Int) then ((decklelaw10_one.f 4).bind fun t314 => ((array_Same.f kj7 (rd_L5 t281 1) t314).bind fun t317 => (if t317 = true then ((decklelaw10_one.f 3).bind fun t318 => ((decklelaw10_one.f 4).bind fun t321 => ((array_Same.f kj7 t318 t321).bind fun t324 => (if t324 = true then (none) else ((array_Right.f kj7 (([(⟨1, ([] : List Int), (([2] : List Int)), ([] : List (S41))⟩ : S32)] : List (S32)))).bind fun t331 => (if t331 = true then (none) else ((array_Right.f kj7 (([(⟨2, ([] : List Int), ([] : List Int), ([] : List (S41))⟩ : S32)] : List (S32)))).bind fun t335 => (if t335 = true then (none) else ((array_Right.f kj7 (([(⟨4, ([] : List Int), ([] : List Int), (([(⟨10, 0⟩ : S41)] : List (S41)))⟩ : S32)] : List (S32)))).bind fun t342 => (if t342 = true then (none) else ((array_Right.f kj7 (([(⟨3, (([0, 3] : List Int)), ([] : List Int), ([] : List (S41))⟩ : S32)] : List (S32)))).bind fun t349 => (some t349)))))))))))) else (none)))) else (none)) else (none))) else (none))) else (none))) else (none))) else (none))) else (none))) else (none)))))) = some r := J7
      clear H
      have H := H1
      clear H1
      replace H := Option.bind_eq_some_iff.mp H
      obtain ⟨t292, A490, H⟩ := H
      have A49 := Aside0.mk A490
      clear A490
      by_cases c50 : t292 = true
      · subst c50
        have H1 : (none) = some r := J14
        clear H
        have H := H1
        clear H1
        exact absurd H J21
      replace c50 := Bool.eq_false_iff.mpr c50
      subst c50
      have H1 : ((array_Copy.f t257).bind fun t293 => ((decklelaw10_one.f 5).bind fun t296 => (if t293.length + t296.length < 1759218604441 then ((array_Take.f kj7 (t293 ++ t296)).bind fun t302 => (if t302 = 3 then ((array_Items.f kj7 t257).bind fun t303 => (if t303 = 4 then ((array_Depth.f kj7 t257).bind fun t304 => (if t304 = 2 then ((array_Depth.f kj7 t277).bind fun t305 => (if t305 = 1 then ((array_Rank.f kj7 t257).bind fun t306 => (if t306 = 1 then ((array_Items.f kj7 (t257.take 2)).bind fun t312 => (if t312 = 0 then (if 1 < (t281.length : Int) then ((decklelaw10_one.f 4).bind fun t314 => ((array_Same.f kj7 (rd_L5 t281 1) t314).bind fun t317 => (if t317 = true then ((decklelaw10_one.f 3).bind fun t318 => ((decklelaw10_one.f 4).bind fun t321 => ((array_Same.f kj7 t318 t321).bind fun t324 => (if t324 = true then (none) else ((array_Right.f kj7 (([(⟨1, ([] : List Int), (([2] : List Int)), ([] : List (S41))⟩ : S32)] : List (S32)))).bind fun t331 => (if t331 = true then (none) else ((array_Right.f kj7 (([(⟨2, ([] : List Int), ([] : List Int), ([] : List (S41))⟩ : S32)] : List (S32)))).bind fun t335 => (if t335 = true then (none) else ((array_Right.f kj7 (([(⟨4, ([] : List Int), ([] : List Int), (([(⟨10, 0⟩ : S41)] : List (S41)))⟩ : S32)] : List (S32)))).bind fun t342 => (if t342 = true then (none) else ((array_Right.f kj7 (([(⟨3, (([0, 3] : List Int)), ([] : List Int), ([] : List (S41))⟩ : S32)] : List (S32)))).bind fun t349 => (some t349)))))))))))) else (none)))) else (none)) else (none))) else (none))) else (none))) else (none))) else (none))) else (none))) else (none)))) = some r := J7
      clear H
      have H := H1
      clear H1
      replace H := Option.bind_eq_some_iff.mp H
      obtain ⟨t293, A510, H⟩ := H
      have A51 := Aside0.mk A510
      clear A510
      replace H := Option.bind_eq_some_iff.mp H
      obtain ⟨t296, A520, H⟩ := H
      have A52 := Aside0.mk A520
      clear A520
      by_cases c53 : t293.length + t296.length < 1759218604441
      rotate_left
      · rw [if_neg c53] at H
        exact absurd H J21
      rw [if_pos c53] at H
      have LMc53 := Aside0.mk c53
      clear c53
      obtain ⟨y299, hy299⟩ : ∃ y_ : List (S32), y_ = (t293 ++ t296) := ⟨_, rfl⟩
      replace H : ((array_Take.f kj7 y299).bind fun t302 => (if t302 = 3 then ((array_Items.f kj7 t257).bind fun t303 => (if t303 = 4 then ((array_Depth.f kj7 t257).bind fun t304 => (if t304 = 2 then ((array_Depth.f kj7 t277).bind fun t305 => (if t305 = 1 then ((array_Rank.f kj7 t257).bind fun t306 => (if t306 = 1 then ((array_Items.f kj7 (t257.take 2)).bind fun t312 => (if t312 = 0 then (if 1 < (t281.length : Int) then ((decklelaw10_one.f 4).bind fun t314 => ((array_Same.f kj7 (rd_L5 t281 1) t314).bind fun t317 => (if t317 = true then ((decklelaw10_one.f 3).bind fun t318 => ((decklelaw10_one.f 4).bind fun t321 => ((array_Same.f kj7 t318 t321).bind fun t324 => (if t324 = true then (none) else ((array_Right.f kj7 (([(⟨1, ([] : List Int), (([2] : List Int)), ([] : List (S41))⟩ : S32)] : List (S32)))).bind fun t331 => (if t331 = true then (none) else ((array_Right.f kj7 (([(⟨2, ([] : List Int), ([] : List Int), ([] : List (S41))⟩ : S32)] : List (S32)))).bind fun t335 => (if t335 = true then (none) else ((array_Right.f kj7 (([(⟨4, ([] : List Int), ([] : List Int), (([(⟨10, 0⟩ : S41)] : List (S41)))⟩ : S32)] : List (S32)))).bind fun t342 => (if t342 = true then (none) else ((array_Right.f kj7 (([(⟨3, (([0, 3] : List Int)), ([] : List Int), ([] : List (S41))⟩ : S32)] : List (S32)))).bind fun t349 => (some t349)))))))))))) else (none)))) else (none)) else (none))) else (none))) else (none))) else (none))) else (none))) else (none))) = some r := by first | (rw [hy299]; with_reducible exact H) | (have H2_ := (Option.bind_some _ _).symm.trans H; rw [hy299]; with_reducible exact H2_) | (have H2_ := (Option.bind_some _ _).symm.trans H; with_reducible exact H2_) | with_reducible exact H | (rw [hy299]; exact H) | exact H
      have Ny299 := Aside0.mk hy299
      clear hy299
      replace H := Option.bind_eq_some_iff.mp H
      obtain ⟨t302, A540, H⟩ := H
      have A54 := Aside0.mk A540
      clear A540
      by_cases c55 : t302 = 3
      rotate_left
      · rw [if_neg c55] at H
        exact absurd H J21
      rw [if_pos c55] at H
      have c55b0 : (t302 == 3) = true := beq_iff_eq.mpr c55
      have c55b1 : (t302 != 3) = false := bne_eq_false_iff_eq.mpr c55
      clear c55
      replace H := Option.bind_eq_some_iff.mp H
      obtain ⟨t303, A560, H⟩ := H
      have A56 := Aside0.mk A560
      clear A560
      by_cases c57 : t303 = 4
      rotate_left
      · rw [if_neg c57] at H
        exact absurd H J21
      rw [if_pos c57] at H
      have c57b0 : (t303 == 4) = true := beq_iff_eq.mpr c57
      have c57b1 : (t303 != 4) = false := bne_eq_false_iff_eq.mpr c57
      clear c57
      replace H := Option.bind_eq_some_iff.mp H
      obtain ⟨t304, A580, H⟩ := H
      have A58 := Aside0.mk A580
      clear A580
      by_cases c59 : t304 = 2
      rotate_left
      · rw [if_neg c59] at H
        exact absurd H J21
      rw [if_pos c59] at H
      have c59b0 : (t304 == 2) = true := beq_iff_eq.mpr c59
      have c59b1 : (t304 != 2) = false := bne_eq_false_iff_eq.mpr c59
      clear c59
      replace H := Option.bind_eq_some_iff.mp H
      obtain ⟨t305, A600, H⟩ := H
      have A60 := Aside0.mk A600
      clear A600
      by_cases c61 : t305 = 1
      rotate_left
      · rw [if_neg c61] at H
        exact absurd H J21
      rw [if_pos c61] at H
      have c61b0 : (t305 == 1) = true := beq_iff_eq.mpr c61
      have c61b1 : (t305 != 1) = false := bne_eq_false_iff_eq.mpr c61
      clear c61
      replace H := Option.bind_eq_some_iff.mp H
      obtain ⟨t306, A620, H⟩ := H
      have A62 := Aside0.mk A620
      clear A620
      by_cases c63 : t306 = 1
      rotate_left
      · rw [if_neg c63] at H
        exact absurd H J21
      rw [if_pos c63] at H
      have c63b0 : (t306 == 1) = true := beq_iff_eq.mpr c63
      have c63b1 : (t306 != 1) = false := bne_eq_false_iff_eq.mpr c63
      clear c63
      have c64b0 := eq_true (of_decide_eq_true J2 : 2 ≤ (t257.length : Int))
      obtain ⟨y307, hy307⟩ : ∃ y_ : List (S32), y_ = (t257.take 2) := ⟨_, rfl⟩
      replace H : ((array_Items.f kj7 y307).bind fun t312 => (if t312 = 0 then (if 1 < (t281.length : Int) then ((decklelaw10_one.f 4).bind fun t314 => ((array_Same.f kj7 (rd_L5 t281 1) t314).bind fun t317 => (if t317 = true then ((decklelaw10_one.f 3).bind fun t318 => ((decklelaw10_one.f 4).bind fun t321 => ((array_Same.f kj7 t318 t321).bind fun t324 => (if t324 = true then (none) else ((array_Right.f kj7 (([(⟨1, ([] : List Int), (([2] : List Int)), ([] : List (S41))⟩ : S32)] : List (S32)))).bind fun t331 => (if t331 = true then (none) else ((array_Right.f kj7 (([(⟨2, ([] : List Int), ([] : List Int), ([] : List (S41))⟩ : S32)] : List (S32)))).bind fun t335 => (if t335 = true then (none) else ((array_Right.f kj7 (([(⟨4, ([] : List Int), ([] : List Int), (([(⟨10, 0⟩ : S41)] : List (S41)))⟩ : S32)] : List (S32)))).bind fun t342 => (if t342 = true then (none) else ((array_Right.f kj7 (([(⟨3, (([0, 3] : List Int)), ([] : List Int), ([] : List (S41))⟩ : S32)] : List (S32)))).bind fun t349 => (some t349)))))))))))) else (none)))) else (none)) else (none))) = some r := by first | (rw [hy307]; with_reducible exact H) | (have H2_ := (Option.bind_some _ _).symm.trans H; rw [hy307]; with_reducible exact H2_) | (have H2_ := (Option.bind_some _ _).symm.trans H; with_reducible exact H2_) | with_reducible exact H | (rw [hy307]; exact H) | exact H
      have Ny307 := Aside0.mk hy307
      clear hy307
      replace H := Option.bind_eq_some_iff.mp H
      obtain ⟨t312, A650, H⟩ := H
      have A65 := Aside0.mk A650
      clear A650
      by_cases c66 : t312 = 0
      rotate_left
      · rw [if_neg c66] at H
        exact absurd H J21
      rw [if_pos c66] at H
      have c66b0 : (t312 == 0) = true := beq_iff_eq.mpr c66
      have c66b1 : (t312 != 0) = false := bne_eq_false_iff_eq.mpr c66
      clear c66
      by_cases c67 : 1 < (t281.length : Int)
      rotate_left
      · rw [if_neg c67] at H
        exact absurd H J21
      rw [if_pos c67] at H
      have c67b0 := decide_eq_true c67
      have c67b1 : decide (1 < t281.length) = true := decide_eq_true J28
      clear c67
      replace H := Option.bind_eq_some_iff.mp H
      obtain ⟨t314, A680, H⟩ := H
      have A68 := Aside0.mk A680
      clear A680
      replace H := Option.bind_eq_some_iff.mp H
      obtain ⟨t317, A690, H⟩ := H
      have A69 := Aside0.mk A690
      clear A690
      by_cases c70 : t317 = true
      rotate_left
      · replace c70 := Bool.eq_false_iff.mpr c70
        subst c70
        have H1 : (none) = some r := J7
        clear H
        have H := H1
        clear H1
        exact absurd H J21
      subst c70
      have H1 : ((decklelaw10_one.f 3).bind fun t318 => ((decklelaw10_one.f 4).bind fun t321 => ((array_Same.f kj7 t318 t321).bind fun t324 => (if t324 = true then (none) else ((array_Right.f kj7 (([(⟨1, ([] : List Int), (([2] : List Int)), ([] : List (S41))⟩ : S32)] : List (S32)))).bind fun t331 => (if t331 = true then (none) else ((array_Right.f kj7 (([(⟨2, ([] : List Int), ([] : List Int), ([] : List (S41))⟩ : S32)] : List (S32)))).bind fun t335 => (if t335 = true then (none) else ((array_Right.f kj7 (([(⟨4, ([] : List Int), ([] : List Int), (([(⟨10, 0⟩ : S41)] : List (S41)))⟩ : S32)] : List (S32)))).bind fun t342 => (if t342 = true then (none) else ((array_Right.f kj7 (([(⟨3, (([0, 3] : List Int)), ([] : List Int), ([] : List (S41))⟩ : S32)] : List (S32)))).bind fun t349 => (some t349)))))))))))) = some r := J14
      clear H
      have H := H1
      clear H1
      replace H := Option.bind_eq_some_iff.mp H
      obtain ⟨t318, A710, H⟩ := H
      have A71 := Aside0.mk A710
      clear A710
      replace H := Option.bind_eq_some_iff.mp H
      obtain ⟨t321, A720, H⟩ := H
      have A72 := Aside0.mk A720
      clear A720
      replace H := Option.bind_eq_some_iff.mp H
      obtain ⟨t324, A730, H⟩ := H
      have A73 := Aside0.mk A730
      clear A730
      by_cases c74 : t324 = true
      · subst c74
        have H1 : (none) = some r := J14
        clear H
        have H := H1
        clear H1
        exact absurd H J21
      replace c74 := Bool.eq_false_iff.mpr c74
      subst c74
      have H1 : ((array_Right.f kj7 (([(⟨1, ([] : List Int), (([2] : List Int)), ([] : List (S41))⟩ : S32)] : List (S32)))).bind fun t331 => (if t331 = true then (none) else ((array_Right.f kj7 (([(⟨2, ([] : List Int), ([] : List Int), ([] : List (S41))⟩ : S32)] : List (S32)))).bind fun t335 => (if t335 = true then (none) else ((array_Right.f kj7 (([(⟨4, ([] : List Int), ([] : List Int), (([(⟨10, 0⟩ : S41)] : List (S41)))⟩ : S32)] : List (S32)))).bind fun t342 => (if t342 = true then (none) else ((array_Right.f kj7 (([(⟨3, (([0, 3] : List Int)), ([] : List Int), ([] : List (S41))⟩ : S32)] : List (S32)))).bind fun t349 => (some t349)))))))) = some r := J7
      clear H
      have H := H1
      clear H1
      obtain ⟨y325, hy325⟩ : ∃ y_ : List Int, y_ = (([2] : List Int)) := ⟨_, rfl⟩
      replace H : ((array_Right.f kj7 (([(⟨1, ([] : List Int), y325, ([] : List (S41))⟩ : S32)] : List (S32)))).bind fun t331 => (if t331 = true then (none) else ((array_Right.f kj7 (([(⟨2, ([] : List Int), ([] : List Int), ([] : List (S41))⟩ : S32)] : List (S32)))).bind fun t335 => (if t335 = true then (none) else ((array_Right.f kj7 (([(⟨4, ([] : List Int), ([] : List Int), (([(⟨10, 0⟩ : S41)] : List (S41)))⟩ : S32)] : List (S32)))).bind fun t342 => (if t342 = true then (none) else ((array_Right.f kj7 (([(⟨3, (([0, 3] : List Int)), ([] : List Int), ([] : List (S41))⟩ : S32)] : List (S32)))).bind fun t349 => (some t349)))))))) = some r := by first | (rw [hy325]; with_reducible exact H) | (have H2_ := (Option.bind_some _ _).symm.trans H; rw [hy325]; with_reducible exact H2_) | (have H2_ := (Option.bind_some _ _).symm.trans H; with_reducible exact H2_) | with_reducible exact H | (rw [hy325]; exact H) | exact H
      have Ny325 := Aside0.mk hy325
      clear hy325
      obtain ⟨y328, hy328⟩ : ∃ y_ : List (S32), y_ = (([(⟨1, ([] : List Int), y325, ([] : List (S41))⟩ : S32)] : List (S32))) := ⟨_, rfl⟩
      replace H : ((array_Right.f kj7 y328).bind fun t331 => (if t331 = true then (none) else ((array_Right.f kj7 (([(⟨2, ([] : List Int), ([] : List Int), ([] : List (S41))⟩ : S32)] : List (S32)))).bind fun t335 => (if t335 = true then (none) else ((array_Right.f kj7 (([(⟨4, ([] : List Int), ([] : List Int), (([(⟨10, 0⟩ : S41)] : List (S41)))⟩ : S32)] : List (S32)))).bind fun t342 => (if t342 = true then (none) else ((array_Right.f kj7 (([(⟨3, (([0, 3] : List Int)), ([] : List Int), ([] : List (S41))⟩ : S32)] : List (S32)))).bind fun t349 => (some t349)))))))) = some r := by first | (rw [hy328]; with_reducible exact H) | (have H2_ := (Option.bind_some _ _).symm.trans H; rw [hy328]; with_reducible exact H2_) | (have H2_ := (Option.bind_some _ _).symm.trans H; with_reducible exact H2_) | with_reducible exact H | (rw [hy328]; exact H) | exact H
      have Ny328 := Aside0.mk hy328
      clear hy328
      replace H := Option.bind_eq_some_iff.mp H
      obtain ⟨t331, A750, H⟩ := H
      have A75 := Aside0.mk A750
      clear A750
      by_cases c76 : t331 = true
      · subst c76
        have H1 : (none) = some r := J14
        clear H
        have H := H1
        clear H1
        exact absurd H J21
      replace c76 := Bool.eq_false_iff.mpr c76
      subst c76
      have H1 : ((array_Right.f kj7 (([(⟨2, ([] : List Int), ([] : List Int), ([] : List (S41))⟩ : S32)] : List (S32)))).bind fun t335 => (if t335 = true then (none) else ((array_Right.f kj7 (([(⟨4, ([] : List Int), ([] : List Int), (([(⟨10, 0⟩ : S41)] : List (S41)))⟩ : S32)] : List (S32)))).bind fun t342 => (if t342 = true then (none) else ((array_Right.f kj7 (([(⟨3, (([0, 3] : List Int)), ([] : List Int), ([] : List (S41))⟩ : S32)] : List (S32)))).bind fun t349 => (some t349)))))) = some r := J7
      clear H
      have H := H1
      clear H1
      obtain ⟨y332, hy332⟩ : ∃ y_ : List (S32), y_ = (([(⟨2, ([] : List Int), ([] : List Int), ([] : List (S41))⟩ : S32)] : List (S32))) := ⟨_, rfl⟩
      replace H : ((array_Right.f kj7 y332).bind fun t335 => (if t335 = true then (none) else ((array_Right.f kj7 (([(⟨4, ([] : List Int), ([] : List Int), (([(⟨10, 0⟩ : S41)] : List (S41)))⟩ : S32)] : List (S32)))).bind fun t342 => (if t342 = true then (none) else ((array_Right.f kj7 (([(⟨3, (([0, 3] : List Int)), ([] : List Int), ([] : List (S41))⟩ : S32)] : List (S32)))).bind fun t349 => (some t349)))))) = some r := by first | (rw [hy332]; with_reducible exact H) | (have H2_ := (Option.bind_some _ _).symm.trans H; rw [hy332]; with_reducible exact H2_) | (have H2_ := (Option.bind_some _ _).symm.trans H; with_reducible exact H2_) | with_reducible exact H | (rw [hy332]; exact H) | exact H
      have Ny332 := Aside0.mk hy332
      clear hy332
      replace H := Option.bind_eq_some_iff.mp H
      obtain ⟨t335, A770, H⟩ := H
      have A77 := Aside0.mk A770
      clear A770
      by_cases c78 : t335 = true
      · subst c78
        have H1 : (none) = some r := J14
        clear H
        have H := H1
        clear H1
        exact absurd H J21
      replace c78 := Bool.eq_false_iff.mpr c78
      subst c78
      have H1 : ((array_Right.f kj7 (([(⟨4, ([] : List Int), ([] : List Int), (([(⟨10, 0⟩ : S41)] : List (S41)))⟩ : S32)] : List (S32)))).bind fun t342 => (if t342 = true then (none) else ((array_Right.f kj7 (([(⟨3, (([0, 3] : List Int)), ([] : List Int), ([] : List (S41))⟩ : S32)] : List (S32)))).bind fun t349 => (some t349)))) = some r := J7
      clear H
      have H := H1
      clear H1
      obtain ⟨y336, hy336⟩ : ∃ y_ : List (S41), y_ = (([(⟨10, 0⟩ : S41)] : List (S41))) := ⟨_, rfl⟩
      replace H : ((array_Right.f kj7 (([(⟨4, ([] : List Int), ([] : List Int), y336⟩ : S32)] : List (S32)))).bind fun t342 => (if t342 = true then (none) else ((array_Right.f kj7 (([(⟨3, (([0, 3] : List Int)), ([] : List Int), ([] : List (S41))⟩ : S32)] : List (S32)))).bind fun t349 => (some t349)))) = some r := by first | (rw [hy336]; with_reducible exact H) | (have H2_ := (Option.bind_some _ _).symm.trans H; rw [hy336]; with_reducible exact H2_) | (have H2_ := (Option.bind_some _ _).symm.trans H; with_reducible exact H2_) | with_reducible exact H | (rw [hy336]; exact H) | exact H
      have Ny336 := Aside0.mk hy336
      clear hy336
      obtain ⟨y339, hy339⟩ : ∃ y_ : List (S32), y_ = (([(⟨4, ([] : List Int), ([] : List Int), y336⟩ : S32)] : List (S32))) := ⟨_, rfl⟩
      replace H : ((array_Right.f kj7 y339).bind fun t342 => (if t342 = true then (none) else ((array_Right.f kj7 (([(⟨3, (([0, 3] : List Int)), ([] : List Int), ([] : List (S41))⟩ : S32)] : List (S32)))).bind fun t349 => (some t349)))) = some r := by first | (rw [hy339]; with_reducible exact H) | (have H2_ := (Option.bind_some _ _).symm.trans H; rw [hy339]; with_reducible exact H2_) | (have H2_ := (Option.bind_some _ _).symm.trans H; with_reducible exact H2_) | with_reducible exact H | (rw [hy339]; exact H) | exact H
      have Ny339 := Aside0.mk hy339
      clear hy339
      replace H := Option.bind_eq_some_iff.mp H
      obtain ⟨t342, A790, H⟩ := H
      have A79 := Aside0.mk A790
      clear A790
      by_cases c80 : t342 = true
      · subst c80
        have H1 : (none) = some r := J14
        clear H
        have H := H1
        clear H1
        exact absurd H J21
      replace c80 := Bool.eq_false_iff.mpr c80
      subst c80
      have H1 : ((array_Right.f kj7 (([(⟨3, (([0, 3] : List Int)), ([] : List Int), ([] : List (S41))⟩ : S32)] : List (S32)))).bind fun t349 => (some t349)) = some r := J7
      clear H
      have H := H1
      clear H1
      obtain ⟨y343, hy343⟩ : ∃ y_ : List Int, y_ = (([0, 3] : List Int)) := ⟨_, rfl⟩
      replace H : ((array_Right.f kj7 (([(⟨3, y343, ([] : List Int), ([] : List (S41))⟩ : S32)] : List (S32)))).bind fun t349 => (some t349)) = some r := by first | (rw [hy343]; with_reducible exact H) | (have H2_ := (Option.bind_some _ _).symm.trans H; rw [hy343]; with_reducible exact H2_) | (have H2_ := (Option.bind_some _ _).symm.trans H; with_reducible exact H2_) | with_reducible exact H | (rw [hy343]; exact H) | exact H
      have Ny343 := Aside0.mk hy343
      clear hy343
      obtain ⟨y346, hy346⟩ : ∃ y_ : List (S32), y_ = (([(⟨3, y343, ([] : List Int), ([] : List (S41))⟩ : S32)] : List (S32))) := ⟨_, rfl⟩
      replace H : ((array_Right.f kj7 y346).bind fun t349 => (some t349)) = some r := by first | (rw [hy346]; with_reducible exact H) | (have H2_ := (Option.bind_some _ _).symm.trans H; rw [hy346]; with_reducible exact H2_) | (have H2_ := (Option.bind_some _ _).symm.trans H; with_reducible exact H2_) | with_reducible exact H | (rw [hy346]; exact H) | exact H
      have Ny346 := Aside0.mk hy346
      clear hy346
      replace H := Option.bind_eq_some_iff.mp H
      obtain ⟨t349, A810, H⟩ := H
      have A81 := Aside0.mk A810
      clear A810
      obtain rfl := Option.some.inj H
      try go_wp2
      have n0_ := Aside0.mk (Kd.N_drew HO_1.out)
      have n1_ := Aside0.mk (Kd.N_drew HO_5.out)
      have n2_ := Aside0.mk (Kd.N_drew HO_7.out)
      have n3_ := Aside0.mk (below_drew1 HB.out)
      clear HO_1
      clear HO_5
      clear HO_7
      clear HB
      have HO_1 := n0_
      have HO_5 := n1_
      have HO_7 := n2_
      have HB := n3_
      clear n0_ n1_ n2_ n3_
      obtain ⟨Ao83, co83, eo83⟩ := Kd.N_slice HO_5.out
      (first | subst eo83 | (injection eo83 with f1_ f2_ f3_; have f4_ := f1_.symm; have f5_ := f3_.symm; clear f1_ f2_ f3_; subst f4_; subst f5_))
      obtain ⟨Ao101, co101, eo101⟩ := Kd.N_slice HO_7.out
      subst eo101
      have p313 : 0 ≤ (1 : Int) := J28
      have q313 : 1 < (t281.length : Int) := of_decide_eq_true J2
      obtain ⟨ad313, A313_0, c313_0, e313, hx313_0, hl313_0, hi313_0⟩ := at_L5 (Kd.N_reads' HO_7.out).2.2 1 p313 q313
      cases e313
      obtain ⟨ce313, hce313, hMe313, hcc313⟩ := Kd.N_get HO_7.out [] 1 p313 (by first | exact q313 | exact of_decide_eq_true J2 | (have e_ := (Kd.N_reads' HO_7.out).1; omega))
      obtain ⟨ua313_0, uc313_0, rfl, ul313_0, ge313_0⟩ := Kd.FK_slice_open hMe313
      have hv313_0 := hcc313 0 _ rfl
      rw [Nat.add_zero, show ((Kd.slice 32 k32)).sz = 1 from rfl, Nat.mul_one] at hv313_0
      replace hv313_0 := Option.some.inj (hv313_0.symm.trans hx313_0)
      injection hv313_0 with hva_ hvn_ hvc_
      rw [hva_] at ge313_0
      rw [hvc_] at ul313_0
      have HL313_0 := Aside0.mk (show Kd.V k32 32 _ w.heap.size _ _ (rd_L5 t281 1) from Kd.V_mk ul313_0 ge313_0)
      clear hva_ hvn_ hvc_ ge313_0 ul313_0
      clear hcc313 hce313
      (try simp only [show (1 : Int).toNat = 1 from rfl, Nat.reduceMul, Nat.reduceEqDiff, Go.Addr.add, ↓reduceIte] at hx313_0)
      have qi313 : (1 < t281.length) = True := eq_true J28
      (try rw [show ((1 : Int)).toNat = 1 from rfl] at hx313_0)
      have HR313_0 := Aside0.mk hi313_0
      have HC313_0 := Aside0.mk hl313_0
      clear hi313_0 hl313_0
      replace p313 := eq_true p313
      replace q313 := eq_true q313
      refine start_ (n := 106) (S := fun w' => w'.cell? ⟨ad313.block, ad313.off + 1, none⟩ = some (.slice A313_0 (rd_L5 t281 1).length c313_0)) (ds := []) tb0_106 J8 rfl rfl (hx313_0) (fun hHeld => ?_); refine with_tabW decklelaw10_small.tab7 decklelaw10_small.bits7 (fun HT_ HW_ => ?_)
      generalize wc.drew = w82 at HO_1 HO_5 HO_7 HB HL313_0 HR313_0 hx313_0 hHeld ⊢
      refine pure_ (i := 0) (N := some 38) (v := ?_) (a' := ?_) tb0_105 rfl rfl (any_of HT_.out J8) (fun _ _ _ h => h) (Or.inl ⟨J38, ?_⟩) ?_ ?_
      rotate_left
      · intro w'
        go_simp
        with_reducible rfl
      rotate_left
      · simp only [Act.put, List.setIfInBounds_toArray, List.set_cons_zero, List.set_cons_succ, i64_w, i32_w]
        rfl
      refine pure_ (i := 1) (N := some 39) (v := ?_) (a' := ?_) tb0_104 rfl rfl (any_of HT_.out J8) (fun _ _ _ h => h) (Or.inl ⟨J38, ?_⟩) ?_ ?_
      rotate_left
      · intro w'
        go_simp
        with_reducible rfl
      rotate_left
      · simp only [Act.put, List.setIfInBounds_toArray, List.set_cons_zero, List.set_cons_succ, i64_w, i32_w]
        rfl
      refine pure_ (i := 2) (N := some 40) (v := ?_) (a' := ?_) tb0_103 rfl rfl (any_of HT_.out J8) (fun _ _ _ h => h) (Or.inl ⟨J38, ?_⟩) ?_ ?_
      rotate_left
      · intro w'
        go_simp
        with_reducible rfl
      rotate_left
      · simp only [Act.put, List.setIfInBounds_toArray, List.set_cons_zero, List.set_cons_succ, i64_w, i32_w]
        rfl
      refine pure_ (i := 3) (N := some 41) (v := ?_) (a' := ?_) tb0_102 rfl rfl (any_of HT_.out J8) (fun _ _ _ h => h) (Or.inl ⟨J38, ?_⟩) ?_ ?_
      rotate_left
      · intro w'
        go_simp
        with_reducible rfl
      rotate_left
      · simp only [Act.put, List.setIfInBounds_toArray, List.set_cons_zero, List.set_cons_succ, i64_w, i32_w]
        rfl
      refine pure_ (i := 4) (N := some 42) (v := ?_) (a' := ?_) tb0_101 rfl rfl (any_of HT_.out J8) (fun _ _ _ h => h) (Or.inl ⟨J38, ?_⟩) ?_ ?_
      rotate_left
      · intro w'
        go_simp
        with_reducible rfl
      rotate_left
      · simp only [Act.put, List.setIfInBounds_toArray, List.set_cons_zero, List.set_cons_succ, i64_w, i32_w]
        rfl
      refine pure_ (i := 5) (N := some 43) (v := ?_) (a' := ?_) tb0_100 rfl rfl (any_of HT_.out J8) (fun _ _ _ h => h) (Or.inl ⟨J38, ?_⟩) ?_ ?_
      rotate_left
      · intro w'
        go_simp
        with_reducible rfl
      rotate_left
      · simp only [Act.put, List.setIfInBounds_toArray, List.set_cons_zero, List.set_cons_succ, i64_w, i32_w]
        rfl
      refine pure_ (i := 6) (N := some 44) (v := ?_) (a' := ?_) tb0_99 rfl rfl (any_of HT_.out J8) (fun _ _ _ h => h) (Or.inl ⟨J38, ?_⟩) ?_ ?_
      rotate_left
      · intro w'
        go_simp
        with_reducible rfl
      rotate_left
      · simp only [Act.put, List.setIfInBounds_toArray, List.set_cons_zero, List.set_cons_succ, i64_w, i32_w]
        rfl
      refine pure_ (i := 7) (N := some 45) (v := ?_) (a' := ?_) tb0_98 rfl rfl (any_of HT_.out J8) (fun _ _ _ h => h) (Or.inl ⟨J38, ?_⟩) ?_ ?_
      rotate_left
      · intro w'
        go_simp
        with_reducible rfl
      rotate_left
      · simp only [Act.put, List.setIfInBounds_toArray, List.set_cons_zero, List.set_cons_succ, i64_w, i32_w]
        rfl
      refine pure_ (i := 8) (N := some 46) (v := ?_) (a' := ?_) tb0_97 rfl rfl (any_of HT_.out J8) (fun _ _ _ h => h) (Or.inl ⟨J38, ?_⟩) ?_ ?_
      rotate_left
      · intro w'
        go_simp
        with_reducible rfl
      rotate_left
      · simp only [Act.put, List.setIfInBounds_toArray, List.set_cons_zero, List.set_cons_succ, i64_w, i32_w]
        rfl
      refine pure_ (i := 9) (N := some 47) (v := ?_) (a' := ?_) tb0_96 rfl rfl (any_of HT_.out J8) (fun _ _ _ h => h) (Or.inl ⟨J38, ?_⟩) ?_ ?_
      rotate_left
      · intro w'
        go_simp
        with_reducible rfl
      rotate_left
      · simp only [Act.put, List.setIfInBounds_toArray, List.set_cons_zero, List.set_cons_succ, i64_w, i32_w]
        rfl
      refine pure_ (i := 10) (N := some 48) (v := ?_) (a' := ?_) tb0_95 rfl rfl (any_of HT_.out J8) (fun _ _ _ h => h) (Or.inl ⟨J38, ?_⟩) ?_ ?_
      rotate_left
      · intro w'
        go_simp
        with_reducible rfl
      rotate_left
      · simp only [Act.put, List.setIfInBounds_toArray, List.set_cons_zero, List.set_cons_succ, i64_w, i32_w]
        rfl
      refine pure_ (i := 11) (N := some 49) (v := ?_) (a' := ?_) tb0_94 rfl rfl (any_of HT_.out J8) (fun _ _ _ h => h) (Or.inl ⟨J38, ?_⟩) ?_ ?_
      rotate_left
      · intro w'
        go_simp
        with_reducible rfl
      rotate_left
      · simp only [Act.put, List.setIfInBounds_toArray, List.set_cons_zero, List.set_cons_succ, i64_w, i32_w]
        rfl
      refine pure_ (i := 12) (N := some 50) (v := ?_) (a' := ?_) tb0_93 rfl rfl (any_of HT_.out J8) (fun _ _ _ h => h) (Or.inl ⟨J38, ?_⟩) ?_ ?_
      rotate_left
      · intro w'
        go_simp
        with_reducible rfl
      rotate_left
      · simp only [Act.put, List.setIfInBounds_toArray, List.set_cons_zero, List.set_cons_succ, i64_w, i32_w]
        rfl
      refine pure_ (i := 13) (N := some 51) (v := ?_) (a' := ?_) tb0_92 rfl rfl (any_of HT_.out J8) (fun _ _ _ h => h) (Or.inl ⟨J38, ?_⟩) ?_ ?_
      rotate_left
      · intro w'
        go_simp
        with_reducible rfl
      rotate_left
      · simp only [Act.put, List.setIfInBounds_toArray, List.set_cons_zero, List.set_cons_succ, i64_w, i32_w]
        rfl
      refine pure_ (i := 14) (N := some 52) (v := ?_) (a' := ?_) tb0_91 rfl rfl (any_of HT_.out J8) (fun _ _ _ h => h) (Or.inl ⟨J38, ?_⟩) ?_ ?_
      rotate_left
      · intro w'
        go_simp
        with_reducible rfl
      rotate_left
      · simp only [Act.put, List.setIfInBounds_toArray, List.set_cons_zero, List.set_cons_succ, i64_w, i32_w]
        rfl
      refine one_ (i := 15) (N := some 53) tb0_90 rfl rfl (one_of HT_.out J8) J17 (fun K hK => ?_)
      refine goes_ Try.func14 J8 rfl #[.slice Ao33 t257.length co33] J38 rfl rfl J1 ?_
      with_reducible refine (array_Right.calls kj7 _ _ t257 true _ ?side1 ?side2 A42.out).mono ?_
      (case side1 => repeat (first | exact (Kd.N_reads' HO_1.out).2.2 | (with_reducible refine Kd.C_alloc ?_ _) | (with_reducible refine Kd.C_drewN ?_ _) | (with_reducible refine Kd.C_drew ?_)))
      (case side2 => exact (Kd.N_reads' HO_1.out).2.1)
      rintro e w84 ⟨rfl, hb⟩
      have HS0_ := (hb.cell (World.block_lt_of_cell? _ _ (hHeld))).trans (hHeld)
      refine ⟨_, rfl, ?_⟩
      have n0_ := Aside0.mk (Kd.N_below (zn HO_1.out) hb)
      have n1_ := Aside0.mk (Kd.N_below (zn HO_5.out) hb)
      have n2_ := Aside0.mk (Kd.N_below (zn HO_7.out) hb)
      have n3_ := Aside0.mk (below_step J0 hb)
      clear HO_1
      clear HO_5
      clear HO_7
      clear HB
      have HO_1 := n0_
      have HO_5 := n1_
      have HO_7 := n2_
      have HB := n3_
      clear n0_ n1_ n2_ n3_
      (try clear hb)
      (try clear hb2)
      (try clear hk)
      (try clear hi)
      refine hK.out _ _ (HS0_) (fun hHeld => ?_)
      clear hK K
      refine norm_ (a' := ?_) ?_ ?_
      rotate_left
      · show Act.put _ (some 53) _ = _
        simp only [Act.put, List.setIfInBounds_toArray, List.set_cons_zero, List.set_cons_succ, i64_w, i32_w]
        rfl
      refine pure_ (i := 16) (N := some 54) (v := ?_) (a' := ?_) tb0_89 rfl rfl (any_of HT_.out J8) (fun _ _ _ h => h) (Or.inl ⟨J38, ?_⟩) ?_ ?_
      rotate_left
      · intro w'
        go_simp
        with_reducible rfl
      rotate_left
      · simp only [Act.put, List.setIfInBounds_toArray, List.set_cons_zero, List.set_cons_succ, i64_w, i32_w]
        rfl
      refine pure_ (i := 17) (N := some 55) (v := ?_) (a' := ?_) tb0_88 rfl rfl (any_of HT_.out J8) (fun _ _ _ h => h) (Or.inl ⟨J38, ?_⟩) ?_ ?_
      rotate_left
      · intro w'
        go_simp
        with_reducible rfl
      rotate_left
      · simp only [Act.put, List.setIfInBounds_toArray, List.set_cons_zero, List.set_cons_succ, i64_w, i32_w]
        rfl
      refine pure_ (i := 18) (N := some 56) (v := ?_) (a' := ?_) tb0_87 rfl rfl (any_of HT_.out J8) (fun _ _ _ h => h) (Or.inl ⟨J38, ?_⟩) ?_ ?_
      rotate_left
      · intro w'
        go_simp
        with_reducible rfl
      rotate_left
      · simp only [Act.put, List.setIfInBounds_toArray, List.set_cons_zero, List.set_cons_succ, i64_w, i32_w]
        rfl
      refine one_ (i := 19) (N := some 57) tb0_86 rfl rfl (one_of HT_.out J8) J17 (fun K hK => ?_)
      refine goes_ Try.func14 J8 rfl #[.slice Ao83 t277.length co83] J38 rfl rfl J1 ?_
      with_reducible refine (array_Right.calls kj7 _ _ t277 true _ ?side1 ?side2 A44.out).mono ?_
      (case side1 => repeat (first | exact (Kd.N_reads' HO_5.out).2.2 | (with_reducible refine Kd.C_alloc ?_ _) | (with_reducible refine Kd.C_drewN ?_ _) | (with_reducible refine Kd.C_drew ?_)))
      (case side2 => exact (Kd.N_reads' HO_5.out).2.1)
      rintro e w85 ⟨rfl, hb⟩
      have HS0_ := (hb.cell (World.block_lt_of_cell? _ _ (hHeld))).trans (hHeld)
      refine ⟨_, rfl, ?_⟩
      have n0_ := Aside0.mk (Kd.N_below (zn HO_1.out) hb)
      have n1_ := Aside0.mk (Kd.N_below (zn HO_5.out) hb)
      have n2_ := Aside0.mk (Kd.N_below (zn HO_7.out) hb)
      have n3_ := Aside0.mk (below_step J0 hb)
      clear HO_1
      clear HO_5
      clear HO_7
      clear HB
      have HO_1 := n0_
      have HO_5 := n1_
      have HO_7 := n2_
      have HB := n3_
      clear n0_ n1_ n2_ n3_
      (try clear hb)
      (try clear hb2)
      (try clear hk)
      (try clear hi)
      have q86 : (2 : Int) ≤ ((t257.length : Int) : Int) := of_decide_eq_true J2
      obtain ⟨i086, hi086, _, hsz86, _⟩ := info_parts info32
      have hroom86 : t257.length ≤ co33 := (Kd.N_reads' HO_1.out).2.1
      have hC86 : Kd.F k32 _ _ Ao33 t257.length t257 := (Kd.V_at (base := w.heap.size) (Kd.N_V HO_1.out)).2.2
      have hcut86 := cut_to (P := Try.prog) 22 32 .i64 Try.underlying22 hi086 Ao33 t257.length co33 2 J28 q86 hroom86
      have hr86 := Kd.F_take (m := 2) hC86 J28
      have hy86 : y286.length = (2 : Int).toNat := (by rw [Ny286.out, List.length_take]; omega)
      rw [← Ny286.out] at hr86
      rw [← hy86] at hcut86
      have HO290 := Aside0.mk (show Kd.V k32 32 _ w.heap.size _ (.slice Ao33 y286.length co33) y286 from Kd.V_mk J28 hr86)
      have HC290 := Aside0.mk (show y286.length ≤ co33 from by omega)
      clear hr86 hC86 hroom86 hi086 hsz86
      have KY86 := Aside0.mk hy86
      clear hy86
      replace q86 := eq_true q86
      refine hK.out _ _ (HS0_) (fun hHeld => ?_)
      clear hK K
      refine norm_ (a' := ?_) ?_ ?_
      rotate_left
      · show Act.put _ (some 57) _ = _
        simp only [Act.put, List.setIfInBounds_toArray, List.set_cons_zero, List.set_cons_succ, i64_w, i32_w]
        rfl
      refine pure_ (i := 20) (N := some 58) (v := ?_) (a' := ?_) tb0_85 rfl rfl (any_of HT_.out J8) (fun _ _ _ h => h) (Or.inl ⟨J38, ?_⟩) ?_ ?_
      rotate_left
      · intro w'
        go_simp
        with_reducible rfl
      rotate_left
      · simp only [Act.put, List.setIfInBounds_toArray, List.set_cons_zero, List.set_cons_succ, i64_w, i32_w]
        rfl
      refine pure_ (i := 21) (N := some 59) (v := ?_) (a' := ?_) tb0_84 rfl rfl (any_of HT_.out J8) (fun _ _ _ h => h) (Or.inl ⟨J38, ?_⟩) ?_ ?_
      rotate_left
      · intro w'
        go_simp
        with_reducible rfl
      rotate_left
      · simp only [Act.put, List.setIfInBounds_toArray, List.set_cons_zero, List.set_cons_succ, i64_w, i32_w]
        rfl
      refine pure_ (i := 22) (N := some 60) (v := ?_) (a' := ?_) tb0_83 rfl rfl (any_of HT_.out J8) (fun _ _ _ h => h) (Or.inl ⟨J38, ?_⟩) ?_ ?_
      rotate_left
      · intro w'
        go_simp
        with_reducible rfl
      rotate_left
      · simp only [Act.put, List.setIfInBounds_toArray, List.set_cons_zero, List.set_cons_succ, i64_w, i32_w]
        rfl
      refine pure_ (i := 23) (N := some 61) (v := ?_) (a' := ?_) tb0_82 rfl rfl (any_of HT_.out J8) (fun _ _ _ h => h) (Or.inl ⟨J38, ?_⟩) ?_ ?_
      rotate_left
      · intro w'
        go_simp
        with_reducible rfl
      rotate_left
      · simp only [Act.put, List.setIfInBounds_toArray, List.set_cons_zero, List.set_cons_succ, i64_w, i32_w]
        rfl
      refine one_ (i := 24) (N := some 62) tb0_81 rfl rfl (one_of HT_.out J8) J17 (fun K hK => ?_)
      refine goes_ Try.func14 J8 rfl #[.slice Ao33 y286.length co33] J38 rfl rfl J1 ?_
      with_reducible refine (array_Right.calls kj7 _ _ y286 false _ ?side1 ?side2 A47.out).mono ?_
      (case side1 => repeat (first | exact (Kd.V_reads' HO290.out).2.2 | (with_reducible refine Kd.C_alloc ?_ _) | (with_reducible refine Kd.C_drewN ?_ _) | (with_reducible refine Kd.C_drew ?_)))
      (case side2 => exact (Kd.V_reads' HO290.out).2.1)
      rintro e w87 ⟨rfl, hb⟩
      have HS0_ := (hb.cell (World.block_lt_of_cell? _ _ (hHeld))).trans (hHeld)
      refine ⟨_, rfl, ?_⟩
      have n0_ := Aside0.mk (Kd.N_below (zn HO_1.out) hb)
      have n1_ := Aside0.mk (Kd.N_below (zn HO_5.out) hb)
      have n2_ := Aside0.mk (Kd.N_below (zn HO_7.out) hb)
      have n4_ := Aside0.mk (below_step J0 hb)
      clear HO_1
      clear HO_5
      clear HO_7
      clear HB
      have HO_1 := n0_
      have HO_5 := n1_
      have HO_7 := n2_
      have HB := n4_
      clear n0_ n1_ n2_ n4_
      (try clear hb)
      (try clear hb2)
      (try clear hk)
      (try clear hi)
      refine hK.out _ _ (HS0_) (fun hHeld => ?_)
      clear hK K
      refine norm_ (a' := ?_) ?_ ?_
      rotate_left
      · show Act.put _ (some 62) _ = _
        simp only [Act.put, List.setIfInBounds_toArray, List.set_cons_zero, List.set_cons_succ, i64_w, i32_w]
        rfl
      refine pure_ (i := 25) (N := some 63) (v := ?_) (a' := ?_) tb0_80 rfl rfl (any_of HT_.out J8) (fun _ _ _ h => h) (Or.inl ⟨J38, ?_⟩) ?_ ?_
      rotate_left
      · intro w'
        go_simp
        with_reducible rfl
      rotate_left
      · simp only [Act.put, List.setIfInBounds_toArray, List.set_cons_zero, List.set_cons_succ, i64_w, i32_w]
        rfl
      refine pure_ (i := 26) (N := some 64) (v := ?_) (a' := ?_) tb0_79 rfl rfl (any_of HT_.out J8) (fun _ _ _ h => h) (Or.inl ⟨J38, ?_⟩) ?_ ?_
      rotate_left
      · intro w'
        go_simp
        with_reducible rfl
      rotate_left
      · simp only [Act.put, List.setIfInBounds_toArray, List.set_cons_zero, List.set_cons_succ, i64_w, i32_w]
        rfl
      refine pure_ (i := 27) (N := some 65) (v := ?_) (a' := ?_) tb0_78 rfl rfl (any_of HT_.out J8) (fun _ _ _ h => h) (Or.inl ⟨J38, ?_⟩) ?_ ?_
      rotate_left
      · intro w'
        go_simp
        with_reducible rfl
      rotate_left
      · simp only [Act.put, List.setIfInBounds_toArray, List.set_cons_zero, List.set_cons_succ, i64_w, i32_w]
        rfl
      refine one_ (i := 28) (N := some 66) tb0_77 rfl rfl (one_of HT_.out J8) J17 (fun K hK => ?_)
      refine goes_ Try.func14 J8 rfl #[.slice none 0 0] J38 rfl rfl J1 ?_
      refine (array_Right.calls kj7 _ _ ([] : List (S32)) false _ ?side1 ?side2 A49.out).mono ?_
      (case side1 => exact Kd.C_nil _ _)
      (case side2 => exact Nat.le_refl _)
      rintro e w88 ⟨rfl, hb⟩
      have HS0_ := (hb.cell (World.block_lt_of_cell? _ _ (hHeld))).trans (hHeld)
      refine ⟨_, rfl, ?_⟩
      have n0_ := Aside0.mk (Kd.N_below (zn HO_1.out) hb)
      have n1_ := Aside0.mk (Kd.N_below (zn HO_5.out) hb)
      have n2_ := Aside0.mk (Kd.N_below (zn HO_7.out) hb)
      have n4_ := Aside0.mk (below_step J0 hb)
      clear HO_1
      clear HO_5
      clear HO_7
      clear HB
      have HO_1 := n0_
      have HO_5 := n1_
      have HO_7 := n2_
      have HB := n4_
      clear n0_ n1_ n2_ n4_
      (try clear hb)
      (try clear hb2)
      (try clear hk)
      (try clear hi)
      refine hK.out _ _ (HS0_) (fun hHeld => ?_)
      clear hK K
      refine norm_ (a' := ?_) ?_ ?_
      rotate_left
      · show Act.put _ (some 66) _ = _
        simp only [Act.put, List.setIfInBounds_toArray, List.set_cons_zero, List.set_cons_succ, i64_w, i32_w]
        rfl
      refine pure_ (i := 29) (N := some 67) (v := ?_) (a' := ?_) tb0_76 rfl rfl (any_of HT_.out J8) (fun _ _ _ h => h) (Or.inl ⟨J38, ?_⟩) ?_ ?_
      rotate_left
      · intro w'
        go_simp
        with_reducible rfl
      rotate_left
      · simp only [Act.put, List.setIfInBounds_toArray, List.set_cons_zero, List.set_cons_succ, i64_w, i32_w]
        rfl
      refine pure_ (i := 30) (N := some 68) (v := ?_) (a' := ?_) tb0_75 rfl rfl (any_of HT_.out J8) (fun _ _ _ h => h) (Or.inl ⟨J38, ?_⟩) ?_ ?_
      rotate_left
      · intro w'
        go_simp
        with_reducible rfl
      rotate_left
      · simp only [Act.put, List.setIfInBounds_toArray, List.set_cons_zero, List.set_cons_succ, i64_w, i32_w]
        rfl
      refine pure_ (i := 31) (N := some 69) (v := ?_) (a' := ?_) tb0_74 rfl rfl (any_of HT_.out J8) (fun _ _ _ h => h) (Or.inl ⟨J38, ?_⟩) ?_ ?_
      rotate_left
      · intro w'
        go_simp
        with_reducible rfl
      rotate_left
      · simp only [Act.put, List.setIfInBounds_toArray, List.set_cons_zero, List.set_cons_succ, i64_w, i32_w]
        rfl
      refine pure_ (i := 32) (N := some 70) (v := ?_) (a' := ?_) tb0_73 rfl rfl (any_of HT_.out J8) (fun _ _ _ h => h) (Or.inl ⟨J38, ?_⟩) ?_ ?_
      rotate_left
      · intro w'
        go_simp
        with_reducible rfl
      rotate_left
      · simp only [Act.put, List.setIfInBounds_toArray, List.set_cons_zero, List.set_cons_succ, i64_w, i32_w]
        rfl
      refine one_ (i := 33) (N := some 71) tb0_72 rfl rfl (one_of HT_.out J8) J17 (fun K hK => ?_)
      refine goes_ Try.func13 J8 rfl #[.slice Ao33 t257.length co33] J38 rfl rfl J1 ?_
      with_reducible refine (array_Copy.calls _ _ t257 t293 _ ?side1 ?side2 A51.out).mono ?_
      (case side1 => repeat (first | exact (Kd.N_reads' HO_1.out).2.2 | (with_reducible refine Kd.C_alloc ?_ _) | (with_reducible refine Kd.C_drewN ?_ _) | (with_reducible refine Kd.C_drew ?_)))
      (case side2 => exact (Kd.N_reads' HO_1.out).2.1)
      rintro e w89 ⟨v294, rfl, ho0, hb⟩
      have HS0_ := (hb.cell (World.block_lt_of_cell? _ _ (hHeld))).trans (hHeld)
      refine ⟨_, rfl, ?_⟩
      have n0_ := Aside0.mk (Kd.N_elder' (zn HO_1.out) (Kd.N_base (Kd.S_N (Kd.S_bound ho0))) hb)
      have n1_ := Aside0.mk (Kd.N_elder' (zn HO_5.out) (Kd.N_base (Kd.S_N (Kd.S_bound ho0))) hb)
      have n2_ := Aside0.mk (Kd.N_elder' (zn HO_7.out) (Kd.N_base (Kd.S_N (Kd.S_bound ho0))) hb)
      have n4_ := Aside0.mk (Kd.N_lower (Kd.N_mono (ok' := fun k_ => some k_ ≠ (.slice Ao33 t257.length co33 : Value).ownBlock ∧ some k_ ≠ (.slice Ao83 t277.length co83 : Value).ownBlock ∧ some k_ ≠ (.slice (some ad313) t281.length co101 : Value).ownBlock) (Kd.S_N (Kd.S_bound ho0)) (fun k_ hk_ => ⟨(Kd.fresh' (Kd.N_lt (zn HO_1.out)) k_ hk_.2.1), (Kd.fresh' (Kd.N_lt (zn HO_5.out)) k_ hk_.2.1), (Kd.fresh' (Kd.N_lt (zn HO_7.out)) k_ hk_.2.1)⟩)) (below_size J0))
      have n5_ := Aside0.mk (below_step J0 hb)
      clear HO_1
      clear HO_5
      clear HO_7
      clear HB
      have HO_1 := n0_
      have HO_5 := n1_
      have HO_7 := n2_
      have HO295 := n4_
      have HB := n5_
      clear n0_ n1_ n2_ n4_ n5_
      (try clear hb)
      (try clear hb2)
      (try clear hk)
      (try clear hi)
      (try clear ho0)
      refine hK.out _ _ (HS0_) (fun hHeld => ?_)
      clear hK K
      refine norm_ (a' := ?_) ?_ ?_
      rotate_left
      · show Act.put _ (some 71) _ = _
        simp only [Act.put, List.setIfInBounds_toArray, List.set_cons_zero, List.set_cons_succ, i64_w, i32_w]
        rfl
      refine one_ (i := 34) (N := some 72) tb0_71 rfl rfl (one_of HT_.out J8) J17 (fun K hK => ?_)
      refine goes_ Try.func27 J8 rfl #[.int .i64 5] J38 rfl rfl J1 ?_
      with_reducible refine (decklelaw10_one.calls 5 t296 _ A52.out).mono ?_
      rintro e w90 ⟨v297, rfl, ho0, hb⟩
      have HS0_ := (hb.cell (World.block_lt_of_cell? _ _ (hHeld))).trans (hHeld)
      refine ⟨_, rfl, ?_⟩
      have n0_ := Aside0.mk (Kd.N_elder' (zn HO_1.out) (Kd.N_base ho0) hb)
      have n1_ := Aside0.mk (Kd.N_elder' (zn HO_5.out) (Kd.N_base ho0) hb)
      have n2_ := Aside0.mk (Kd.N_elder' (zn HO_7.out) (Kd.N_base ho0) hb)
      have n4_ := Aside0.mk (Kd.N_elder' (zn HO295.out) (Kd.N_base ho0) hb)
      have n5_ := Aside0.mk (Kd.N_lower (Kd.N_mono (ok' := fun k_ => some k_ ≠ (.slice Ao33 t257.length co33 : Value).ownBlock ∧ some k_ ≠ (.slice Ao83 t277.length co83 : Value).ownBlock ∧ some k_ ≠ (.slice (some ad313) t281.length co101 : Value).ownBlock ∧ some k_ ≠ (v294 : Value).ownBlock) ho0 (fun k_ hk_ => ⟨(Kd.fresh' (Kd.N_lt (zn HO_1.out)) k_ hk_), (Kd.fresh' (Kd.N_lt (zn HO_5.out)) k_ hk_), (Kd.fresh' (Kd.N_lt (zn HO_7.out)) k_ hk_), (Kd.fresh' (Kd.N_lt (zn HO295.out)) k_ hk_)⟩)) (below_size J0))
      have n6_ := Aside0.mk (below_step J0 hb)
      clear HO_1
      clear HO_5
      clear HO_7
      clear HO295
      clear HB
      have HO_1 := n0_
      have HO_5 := n1_
      have HO_7 := n2_
      have HO295 := n4_
      have HO298 := n5_
      have HB := n6_
      clear n0_ n1_ n2_ n4_ n5_ n6_
      (try clear hb)
      (try clear hb2)
      (try clear hk)
      (try clear hi)
      (try clear ho0)
      obtain ⟨Ao92, co92, eo92⟩ := Kd.N_slice HO298.out
      (first | subst eo92 | (injection eo92 with f1_ f2_ f3_; have f4_ := f1_.symm; have f5_ := f3_.symm; clear f1_ f2_ f3_; subst f4_; subst f5_))
      refine hK.out _ _ (HS0_) (fun hHeld => ?_)
      clear hK K
      refine norm_ (a' := ?_) ?_ ?_
      rotate_left
      · show Act.put _ (some 72) _ = _
        simp only [Act.put, List.setIfInBounds_toArray, List.set_cons_zero, List.set_cons_succ, i64_w, i32_w]
        rfl
      refine one_ (i := 35) (N := some 73) tb0_70 rfl rfl (one_of HT_.out J8) J17 (fun K hK => ?_)
      refine Kd.N_append_rows_step k32 (w0 := w) w.heap.size J38 (.tmp 71) (.tmp 72) 22 32 (.agg #[(.int .i64 0), (.slice none 0 0), (.slice none 0 0), (.slice none 0 0)]) 80 rfl Try.underlying22 info32 rfl J17 J28 v294 t293 t296 _ _ _ (fun k_ => some k_ ≠ (.slice Ao33 t257.length co33 : Value).ownBlock ∧ some k_ ≠ (.slice Ao83 t277.length co83 : Value).ownBlock ∧ some k_ ≠ (.slice (some ad313) t281.length co101 : Value).ownBlock) (fun k_ => ((fun k_ => some k_ ≠ (.slice Ao33 t257.length co33 : Value).ownBlock ∧ some k_ ≠ (.slice Ao83 t277.length co83 : Value).ownBlock ∧ some k_ ≠ (.slice (some ad313) t281.length co101 : Value).ownBlock)) k_ ∧ some k_ ≠ (v294 : Value).ownBlock) rfl rfl ?aO ?aR (fun _ hk => hk) ?aF ?aB ?aS ?aL ?_
      (case aR => exact (by skip; exact Kd.N_F (Kd.N_mono (ok' := (fun k_ => ((fun k_ => some k_ ≠ (.slice Ao33 t257.length co33 : Value).ownBlock ∧ some k_ ≠ (.slice Ao83 t277.length co83 : Value).ownBlock ∧ some k_ ≠ (.slice (some ad313) t281.length co101 : Value).ownBlock)) k_ ∧ some k_ ≠ (v294 : Value).ownBlock)) (HO298.out) (fun k_ hk => ⟨⟨hk.1, ⟨hk.2.1, hk.2.2.1⟩⟩, hk.2.2.2⟩))))
      (case aB => exact J0)
      (case aF => exact (fun k_ hk => ⟨Kd.fresh' (Kd.N_lt (zn HO_1.out)) k_ hk, Kd.fresh' (Kd.N_lt (zn HO_5.out)) k_ hk, Kd.fresh' (Kd.N_lt (zn HO_7.out)) k_ hk⟩))
      (case aO => exact (by (with_reducible repeat (first | apply Kd.N_alloc | apply Kd.N_drewN | apply Kd.N_drew)); exact Kd.N_mono HO295.out (fun _ hk => ⟨hk.1.1, ⟨hk.1.2.1, hk.1.2.2⟩⟩)))
      (case aS => exact (below_size J0))
      (case aL => have := LMc53.out; omega)
      intro v300 w91 ho hb hg hat
      (first | have HS0_ := cell_grown hg (hHeld) J9 | have HS0_ := cell_grown hg (cell_unalloc (hHeld) (by first | (rw [add_block]; exact V_ltb (Kd.N_V (base' := 0) HO_7.out) J61 J17) | (show (Addr.add _ _).block < _; rw [add_block]; exact V_ltb (Kd.N_V (base' := 0) HO_7.out) J61 J17) | exact V_ltb (Kd.N_V (base' := 0) HO_7.out) J61 J17)) J9)
      rw [← Ny299.out] at ho
      have n0_ := Aside0.mk (Kd.N_afterv (ok := (fun k_ => some k_ ≠ (.slice Ao83 t277.length co83 : Value).ownBlock ∧ some k_ ≠ (.slice (some ad313) t281.length co101 : Value).ownBlock ∧ some k_ ≠ (.slice Ao92 t296.length co92 : Value).ownBlock)) (by (with_reducible repeat (first | apply Kd.N_alloc | apply Kd.N_drewN | apply Kd.N_drew)); exact Kd.N_mono HO_1.out (fun _ hk => ⟨⟨hk.1.1.1, ⟨hk.1.1.2, hk.2⟩⟩, hk.1.2⟩)) hg hat)
      have n1_ := Aside0.mk (Kd.N_afterv (ok := (fun k_ => some k_ ≠ (.slice Ao33 t257.length co33 : Value).ownBlock ∧ some k_ ≠ (.slice (some ad313) t281.length co101 : Value).ownBlock ∧ some k_ ≠ (.slice Ao92 t296.length co92 : Value).ownBlock)) (by (with_reducible repeat (first | apply Kd.N_alloc | apply Kd.N_drewN | apply Kd.N_drew)); exact Kd.N_mono HO_5.out (fun _ hk => ⟨⟨hk.1.1.1, ⟨hk.1.1.2, hk.2⟩⟩, hk.1.2⟩)) hg hat)
      have n2_ := Aside0.mk (Kd.N_afterv (ok := (fun k_ => some k_ ≠ (.slice Ao33 t257.length co33 : Value).ownBlock ∧ some k_ ≠ (.slice Ao83 t277.length co83 : Value).ownBlock ∧ some k_ ≠ (.slice Ao92 t296.length co92 : Value).ownBlock)) (by (with_reducible repeat (first | apply Kd.N_alloc | apply Kd.N_drewN | apply Kd.N_drew)); exact Kd.N_mono HO_7.out (fun _ hk => ⟨⟨hk.1.1.1, ⟨hk.1.1.2, hk.2⟩⟩, hk.1.2⟩)) hg hat)
      have n4_ := Aside0.mk (Kd.N_afterv (ok := (fun k_ => some k_ ≠ (.slice Ao33 t257.length co33 : Value).ownBlock ∧ some k_ ≠ (.slice Ao83 t277.length co83 : Value).ownBlock ∧ some k_ ≠ (.slice (some ad313) t281.length co101 : Value).ownBlock)) (by (with_reducible repeat (first | apply Kd.N_alloc | apply Kd.N_drewN | apply Kd.N_drew)); exact Kd.N_mono HO298.out (fun _ hk => ⟨⟨hk.1, ⟨hk.2.1, hk.2.2.1⟩⟩, hk.2.2.2⟩)) hg hat)
      have n5_ := Aside0.mk (hb)
      have n6_ := Aside0.mk (ho)
      clear HO_1
      clear HO_5
      clear HO_7
      clear HO298
      clear HB
      clear HO295
      have HO_1 := n0_
      have HO_5 := n1_
      have HO_7 := n2_
      have HO298 := n4_
      have HB := n5_
      have HO301 := n6_
      clear n0_ n1_ n2_ n4_ n5_ n6_
      clear ho hb hg hat
      obtain ⟨Ao93, co93, eo93⟩ := Kd.N_slice HO301.out
      (first | subst eo93 | (injection eo93 with f1_ f2_ f3_; have f4_ := f1_.symm; have f5_ := f3_.symm; clear f1_ f2_ f3_; subst f4_; subst f5_))
      refine hK.out _ _ (HS0_) (fun hHeld => ?_)
      clear hK K
      refine norm_ (a' := ?_) ?_ ?_
      rotate_left
      · show Act.put _ (some 73) _ = _
        simp only [Act.put, List.setIfInBounds_toArray, List.set_cons_zero, List.set_cons_succ, i64_w, i32_w]
        rfl
      refine one_ (i := 36) (N := some 74) tb0_69 rfl rfl (one_of HT_.out J8) J17 (fun K hK => ?_)
      refine goes_ Try.func16 J8 rfl #[.slice Ao93 y299.length co93] J38 rfl rfl J1 ?_
      with_reducible refine (array_Take.calls kj7 _ _ y299 t302 _ ?side1 ?side2 A54.out).mono ?_
      (case side1 => repeat (first | exact (Kd.N_reads' HO301.out).2.2 | (with_reducible refine Kd.C_alloc ?_ _) | (with_reducible refine Kd.C_drewN ?_ _) | (with_reducible refine Kd.C_drew ?_)))
      (case side2 => exact (Kd.N_reads' HO301.out).2.1)
      rintro e w94 ⟨rfl, hb⟩
      have HS0_ := (hb.cell (World.block_lt_of_cell? _ _ (hHeld))).trans (hHeld)
      refine ⟨_, rfl, ?_⟩
      have n0_ := Aside0.mk (Kd.N_below (zn HO_1.out) hb)
      have n1_ := Aside0.mk (Kd.N_below (zn HO_5.out) hb)
      have n2_ := Aside0.mk (Kd.N_below (zn HO_7.out) hb)
      have n4_ := Aside0.mk (Kd.N_below (zn HO298.out) hb)
      have n5_ := Aside0.mk (Kd.N_below (zn HO301.out) hb)
      have n6_ := Aside0.mk (below_step J0 hb)
      clear HO_1
      clear HO_5
      clear HO_7
      clear HO298
      clear HO301
      clear HB
      have HO_1 := n0_
      have HO_5 := n1_
      have HO_7 := n2_
      have HO298 := n4_
      have HO301 := n5_
      have HB := n6_
      clear n0_ n1_ n2_ n4_ n5_ n6_
      (try clear hb)
      (try clear hb2)
      (try clear hk)
      (try clear hi)
      refine hK.out _ _ (HS0_) (fun hHeld => ?_)
      clear hK K
      refine norm_ (a' := ?_) ?_ ?_
      rotate_left
      · show Act.put _ (some 74) _ = _
        simp only [Act.put, List.setIfInBounds_toArray, List.set_cons_zero, List.set_cons_succ, i64_w, i32_w]
        rfl
      refine pure_ (i := 37) (N := some 75) (v := ?_) (a' := ?_) tb0_68 rfl rfl (any_of HT_.out J8) (fun _ _ _ h => h) (Or.inl ⟨J38, ?_⟩) ?_ ?_
      rotate_left
      · intro w'
        go_simp
        with_reducible rfl
      rotate_left
      · simp only [Act.put, List.setIfInBounds_toArray, List.set_cons_zero, List.set_cons_succ, i64_w, i32_w]
        rfl
      refine pure_ (i := 38) (N := some 76) (v := ?_) (a' := ?_) tb0_67 rfl rfl (any_of HT_.out J8) (fun _ _ _ h => h) (Or.inl ⟨J38, ?_⟩) ?_ ?_
      rotate_left
      · intro w'
        go_simp
        with_reducible rfl
      rotate_left
      · simp only [Act.put, List.setIfInBounds_toArray, List.set_cons_zero, List.set_cons_succ, i64_w, i32_w]
        rfl
      refine pure_ (i := 39) (N := some 77) (v := ?_) (a' := ?_) tb0_66 rfl rfl (any_of HT_.out J8) (fun _ _ _ h => h) (Or.inl ⟨J38, ?_⟩) ?_ ?_
      rotate_left
      · intro w'
        go_simp
        with_reducible rfl
      rotate_left
      · simp only [Act.put, List.setIfInBounds_toArray, List.set_cons_zero, List.set_cons_succ, i64_w, i32_w]
        rfl
      refine pure_ (i := 40) (N := some 78) (v := ?_) (a' := ?_) tb0_65 rfl rfl (any_of HT_.out J8) (fun _ _ _ h => h) (Or.inl ⟨J38, ?_⟩) ?_ ?_
      rotate_left
      · intro w'
        go_simp
        with_reducible rfl
      rotate_left
      · simp only [Act.put, List.setIfInBounds_toArray, List.set_cons_zero, List.set_cons_succ, i64_w, i32_w]
        rfl
      refine one_ (i := 41) (N := some 79) tb0_64 rfl rfl (one_of HT_.out J8) J17 (fun K hK => ?_)
      refine goes_ Try.func18 J8 rfl #[.slice Ao33 t257.length co33] J38 rfl rfl J1 ?_
      with_reducible refine (array_Items.calls kj7 _ _ t257 t303 _ ?side1 ?side2 A56.out).mono ?_
      (case side1 => repeat (first | exact (Kd.N_reads' HO_1.out).2.2 | (with_reducible refine Kd.C_alloc ?_ _) | (with_reducible refine Kd.C_drewN ?_ _) | (with_reducible refine Kd.C_drew ?_)))
      (case side2 => exact (Kd.N_reads' HO_1.out).2.1)
      rintro e w95 ⟨rfl, hb⟩
      have HS0_ := (hb.cell (World.block_lt_of_cell? _ _ (hHeld))).trans (hHeld)
      refine ⟨_, rfl, ?_⟩
      have n0_ := Aside0.mk (Kd.N_below (zn HO_1.out) hb)
      have n1_ := Aside0.mk (Kd.N_below (zn HO_5.out) hb)
      have n2_ := Aside0.mk (Kd.N_below (zn HO_7.out) hb)
      have n4_ := Aside0.mk (Kd.N_below (zn HO298.out) hb)
      have n5_ := Aside0.mk (Kd.N_below (zn HO301.out) hb)
      have n6_ := Aside0.mk (below_step J0 hb)
      clear HO_1
      clear HO_5
      clear HO_7
      clear HO298
      clear HO301
      clear HB
      have HO_1 := n0_
      have HO_5 := n1_
      have HO_7 := n2_
      have HO298 := n4_
      have HO301 := n5_
      have HB := n6_
      clear n0_ n1_ n2_ n4_ n5_ n6_
      (try clear hb)
      (try clear hb2)
      (try clear hk)
      (try clear hi)
      refine hK.out _ _ (HS0_) (fun hHeld => ?_)
      clear hK K
      refine norm_ (a' := ?_) ?_ ?_
      rotate_left
      · show Act.put _ (some 79) _ = _
        simp only [Act.put, List.setIfInBounds_toArray, List.set_cons_zero, List.set_cons_succ, i64_w, i32_w]
        rfl
      refine pure_ (i := 42) (N := some 80) (v := ?_) (a' := ?_) tb0_63 rfl rfl (any_of HT_.out J8) (fun _ _ _ h => h) (Or.inl ⟨J38, ?_⟩) ?_ ?_
      rotate_left
      · intro w'
        go_simp
        with_reducible rfl
      rotate_left
      · simp only [Act.put, List.setIfInBounds_toArray, List.set_cons_zero, List.set_cons_succ, i64_w, i32_w]
        rfl
      refine pure_ (i := 43) (N := some 81) (v := ?_) (a' := ?_) tb0_62 rfl rfl (any_of HT_.out J8) (fun _ _ _ h => h) (Or.inl ⟨J38, ?_⟩) ?_ ?_
      rotate_left
      · intro w'
        go_simp
        with_reducible rfl
      rotate_left
      · simp only [Act.put, List.setIfInBounds_toArray, List.set_cons_zero, List.set_cons_succ, i64_w, i32_w]
        rfl
      refine pure_ (i := 44) (N := some 82) (v := ?_) (a' := ?_) tb0_61 rfl rfl (any_of HT_.out J8) (fun _ _ _ h => h) (Or.inl ⟨J38, ?_⟩) ?_ ?_
      rotate_left
      · intro w'
        go_simp
        with_reducible rfl
      rotate_left
      · simp only [Act.put, List.setIfInBounds_toArray, List.set_cons_zero, List.set_cons_succ, i64_w, i32_w]
        rfl
      refine pure_ (i := 45) (N := some 83) (v := ?_) (a' := ?_) tb0_60 rfl rfl (any_of HT_.out J8) (fun _ _ _ h => h) (Or.inl ⟨J38, ?_⟩) ?_ ?_
      rotate_left
      · intro w'
        go_simp
        with_reducible rfl
      rotate_left
      · simp only [Act.put, List.setIfInBounds_toArray, List.set_cons_zero, List.set_cons_succ, i64_w, i32_w]
        rfl
      refine one_ (i := 46) (N := some 84) tb0_59 rfl rfl (one_of HT_.out J8) J17 (fun K hK => ?_)
      refine goes_ Try.func20 J8 rfl #[.slice Ao33 t257.length co33] J38 rfl rfl J1 ?_
      with_reducible refine (array_Depth.calls kj7 _ _ t257 t304 _ ?side1 ?side2 A58.out).mono ?_
      (case side1 => repeat (first | exact (Kd.N_reads' HO_1.out).2.2 | (with_reducible refine Kd.C_alloc ?_ _) | (with_reducible refine Kd.C_drewN ?_ _) | (with_reducible refine Kd.C_drew ?_)))
      (case side2 => exact (Kd.N_reads' HO_1.out).2.1)
      rintro e w96 ⟨rfl, hb⟩
      have HS0_ := (hb.cell (World.block_lt_of_cell? _ _ (hHeld))).trans (hHeld)
      refine ⟨_, rfl, ?_⟩
      have n0_ := Aside0.mk (Kd.N_below (zn HO_1.out) hb)
      have n1_ := Aside0.mk (Kd.N_below (zn HO_5.out) hb)
      have n2_ := Aside0.mk (Kd.N_below (zn HO_7.out) hb)
      have n4_ := Aside0.mk (Kd.N_below (zn HO298.out) hb)
      have n5_ := Aside0.mk (Kd.N_below (zn HO301.out) hb)
      have n6_ := Aside0.mk (below_step J0 hb)
      clear HO_1
      clear HO_5
      clear HO_7
      clear HO298
      clear HO301
      clear HB
      have HO_1 := n0_
      have HO_5 := n1_
      have HO_7 := n2_
      have HO298 := n4_
      have HO301 := n5_
      have HB := n6_
      clear n0_ n1_ n2_ n4_ n5_ n6_
      (try clear hb)
      (try clear hb2)
      (try clear hk)
      (try clear hi)
      refine hK.out _ _ (HS0_) (fun hHeld => ?_)
      clear hK K
      refine norm_ (a' := ?_) ?_ ?_
      rotate_left
      · show Act.put _ (some 84) _ = _
        simp only [Act.put, List.setIfInBounds_toArray, List.set_cons_zero, List.set_cons_succ, i64_w, i32_w]
        rfl
      refine pure_ (i := 47) (N := some 85) (v := ?_) (a' := ?_) tb0_58 rfl rfl (any_of HT_.out J8) (fun _ _ _ h => h) (Or.inl ⟨J38, ?_⟩) ?_ ?_
      rotate_left
      · intro w'
        go_simp
        with_reducible rfl
      rotate_left
      · simp only [Act.put, List.setIfInBounds_toArray, List.set_cons_zero, List.set_cons_succ, i64_w, i32_w]
        rfl
      refine pure_ (i := 48) (N := some 86) (v := ?_) (a' := ?_) tb0_57 rfl rfl (any_of HT_.out J8) (fun _ _ _ h => h) (Or.inl ⟨J38, ?_⟩) ?_ ?_
      rotate_left
      · intro w'
        go_simp
        with_reducible rfl
      rotate_left
      · simp only [Act.put, List.setIfInBounds_toArray, List.set_cons_zero, List.set_cons_succ, i64_w, i32_w]
        rfl
      refine pure_ (i := 49) (N := some 87) (v := ?_) (a' := ?_) tb0_56 rfl rfl (any_of HT_.out J8) (fun _ _ _ h => h) (Or.inl ⟨J38, ?_⟩) ?_ ?_
      rotate_left
      · intro w'
        go_simp
        with_reducible rfl
      rotate_left
      · simp only [Act.put, List.setIfInBounds_toArray, List.set_cons_zero, List.set_cons_succ, i64_w, i32_w]
        rfl
      refine pure_ (i := 50) (N := some 88) (v := ?_) (a' := ?_) tb0_55 rfl rfl (any_of HT_.out J8) (fun _ _ _ h => h) (Or.inl ⟨J38, ?_⟩) ?_ ?_
      rotate_left
      · intro w'
        go_simp
        with_reducible rfl
      rotate_left
      · simp only [Act.put, List.setIfInBounds_toArray, List.set_cons_zero, List.set_cons_succ, i64_w, i32_w]
        rfl
      refine one_ (i := 51) (N := some 89) tb0_54 rfl rfl (one_of HT_.out J8) J17 (fun K hK => ?_)
      refine goes_ Try.func20 J8 rfl #[.slice Ao83 t277.length co83] J38 rfl rfl J1 ?_
      with_reducible refine (array_Depth.calls kj7 _ _ t277 t305 _ ?side1 ?side2 A60.out).mono ?_
      (case side1 => repeat (first | exact (Kd.N_reads' HO_5.out).2.2 | (with_reducible refine Kd.C_alloc ?_ _) | (with_reducible refine Kd.C_drewN ?_ _) | (with_reducible refine Kd.C_drew ?_)))
      (case side2 => exact (Kd.N_reads' HO_5.out).2.1)
      rintro e w97 ⟨rfl, hb⟩
      have HS0_ := (hb.cell (World.block_lt_of_cell? _ _ (hHeld))).trans (hHeld)
      refine ⟨_, rfl, ?_⟩
      have n0_ := Aside0.mk (Kd.N_below (zn HO_1.out) hb)
      have n1_ := Aside0.mk (Kd.N_below (zn HO_5.out) hb)
      have n2_ := Aside0.mk (Kd.N_below (zn HO_7.out) hb)
      have n4_ := Aside0.mk (Kd.N_below (zn HO298.out) hb)
      have n5_ := Aside0.mk (Kd.N_below (zn HO301.out) hb)
      have n6_ := Aside0.mk (below_step J0 hb)
      clear HO_1
      clear HO_5
      clear HO_7
      clear HO298
      clear HO301
      clear HB
      have HO_1 := n0_
      have HO_5 := n1_
      have HO_7 := n2_
      have HO298 := n4_
      have HO301 := n5_
      have HB := n6_
      clear n0_ n1_ n2_ n4_ n5_ n6_
      (try clear hb)
      (try clear hb2)
      (try clear hk)
      (try clear hi)
      refine hK.out _ _ (HS0_) (fun hHeld => ?_)
      clear hK K
      refine norm_ (a' := ?_) ?_ ?_
      rotate_left
      · show Act.put _ (some 89) _ = _
        simp only [Act.put, List.setIfInBounds_toArray, List.set_cons_zero, List.set_cons_succ, i64_w, i32_w]
        rfl
      refine pure_ (i := 52) (N := some 90) (v := ?_) (a' := ?_) tb0_53 rfl rfl (any_of HT_.out J8) (fun _ _ _ h => h) (Or.inl ⟨J38, ?_⟩) ?_ ?_
      rotate_left
      · intro w'
        go_simp
        with_reducible rfl
      rotate_left
      · simp only [Act.put, List.setIfInBounds_toArray, List.set_cons_zero, List.set_cons_succ, i64_w, i32_w]
        rfl
      refine pure_ (i := 53) (N := some 91) (v := ?_) (a' := ?_) tb0_52 rfl rfl (any_of HT_.out J8) (fun _ _ _ h => h) (Or.inl ⟨J38, ?_⟩) ?_ ?_
      rotate_left
      · intro w'
        go_simp
        with_reducible rfl
      rotate_left
      · simp only [Act.put, List.setIfInBounds_toArray, List.set_cons_zero, List.set_cons_succ, i64_w, i32_w]
        rfl
      refine pure_ (i := 54) (N := some 92) (v := ?_) (a' := ?_) tb0_51 rfl rfl (any_of HT_.out J8) (fun _ _ _ h => h) (Or.inl ⟨J38, ?_⟩) ?_ ?_
      rotate_left
      · intro w'
        go_simp
        with_reducible rfl
      rotate_left
      · simp only [Act.put, List.setIfInBounds_toArray, List.set_cons_zero, List.set_cons_succ, i64_w, i32_w]
        rfl
      refine pure_ (i := 55) (N := some 93) (v := ?_) (a' := ?_) tb0_50 rfl rfl (any_of HT_.out J8) (fun _ _ _ h => h) (Or.inl ⟨J38, ?_⟩) ?_ ?_
      rotate_left
      · intro w'
        go_simp
        with_reducible rfl
      rotate_left
      · simp only [Act.put, List.setIfInBounds_toArray, List.set_cons_zero, List.set_cons_succ, i64_w, i32_w]
        rfl
      refine one_ (i := 56) (N := some 94) tb0_49 rfl rfl (one_of HT_.out J8) J17 (fun K hK => ?_)
      refine goes_ Try.func22 J8 rfl #[.slice Ao33 t257.length co33] J38 rfl rfl J1 ?_
      with_reducible refine (array_Rank.calls kj7 _ _ t257 t306 _ ?side1 ?side2 A62.out).mono ?_
      (case side1 => repeat (first | exact (Kd.N_reads' HO_1.out).2.2 | (with_reducible refine Kd.C_alloc ?_ _) | (with_reducible refine Kd.C_drewN ?_ _) | (with_reducible refine Kd.C_drew ?_)))
      (case side2 => exact (Kd.N_reads' HO_1.out).2.1)
      rintro e w98 ⟨rfl, hb⟩
      have HS0_ := (hb.cell (World.block_lt_of_cell? _ _ (hHeld))).trans (hHeld)
      refine ⟨_, rfl, ?_⟩
      have n0_ := Aside0.mk (Kd.N_below (zn HO_1.out) hb)
      have n1_ := Aside0.mk (Kd.N_below (zn HO_5.out) hb)
      have n2_ := Aside0.mk (Kd.N_below (zn HO_7.out) hb)
      have n4_ := Aside0.mk (Kd.N_below (zn HO298.out) hb)
      have n5_ := Aside0.mk (Kd.N_below (zn HO301.out) hb)
      have n6_ := Aside0.mk (below_step J0 hb)
      clear HO_1
      clear HO_5
      clear HO_7
      clear HO298
      clear HO301
      clear HB
      have HO_1 := n0_
      have HO_5 := n1_
      have HO_7 := n2_
      have HO298 := n4_
      have HO301 := n5_
      have HB := n6_
      clear n0_ n1_ n2_ n4_ n5_ n6_
      (try clear hb)
      (try clear hb2)
      (try clear hk)
      (try clear hi)
      have q99 : (2 : Int) ≤ ((t257.length : Int) : Int) := of_decide_eq_true J2
      obtain ⟨i099, hi099, _, hsz99, _⟩ := info_parts info32
      have hroom99 : t257.length ≤ co33 := (Kd.N_reads' HO_1.out).2.1
      have hC99 : Kd.F k32 _ _ Ao33 t257.length t257 := (Kd.V_at (base := w.heap.size) (Kd.N_V HO_1.out)).2.2
      have hcut99 := cut_to (P := Try.prog) 22 32 .i64 Try.underlying22 hi099 Ao33 t257.length co33 2 J28 q99 hroom99
      have hr99 := Kd.F_take (m := 2) hC99 J28
      have hy99 : y307.length = (2 : Int).toNat := (by rw [Ny307.out, List.length_take]; omega)
      rw [← Ny307.out] at hr99
      rw [← hy99] at hcut99
      have HO311 := Aside0.mk (show Kd.V k32 32 _ w.heap.size _ (.slice Ao33 y307.length co33) y307 from Kd.V_mk J28 hr99)
      have HC311 := Aside0.mk (show y307.length ≤ co33 from by omega)
      clear hr99 hC99 hroom99 hi099 hsz99
      have KY99 := Aside0.mk hy99
      clear hy99
      replace q99 := eq_true q99
      refine hK.out _ _ (HS0_) (fun hHeld => ?_)
      clear hK K
      refine norm_ (a' := ?_) ?_ ?_
      rotate_left
      · show Act.put _ (some 94) _ = _
        simp only [Act.put, List.setIfInBounds_toArray, List.set_cons_zero, List.set_cons_succ, i64_w, i32_w]
        rfl
      refine pure_ (i := 57) (N := some 95) (v := ?_) (a' := ?_) tb0_48 rfl rfl (any_of HT_.out J8) (fun _ _ _ h => h) (Or.inl ⟨J38, ?_⟩) ?_ ?_
      rotate_left
      · intro w'
        go_simp
        with_reducible rfl
      rotate_left
      · simp only [Act.put, List.setIfInBounds_toArray, List.set_cons_zero, List.set_cons_succ, i64_w, i32_w]
        rfl
      refine pure_ (i := 58) (N := some 96) (v := ?_) (a' := ?_) tb0_47 rfl rfl (any_of HT_.out J8) (fun _ _ _ h => h) (Or.inl ⟨J38, ?_⟩) ?_ ?_
      rotate_left
      · intro w'
        go_simp
        with_reducible rfl
      rotate_left
      · simp only [Act.put, List.setIfInBounds_toArray, List.set_cons_zero, List.set_cons_succ, i64_w, i32_w]
        rfl
      refine pure_ (i := 59) (N := some 97) (v := ?_) (a' := ?_) tb0_46 rfl rfl (any_of HT_.out J8) (fun _ _ _ h => h) (Or.inl ⟨J38, ?_⟩) ?_ ?_
      rotate_left
      · intro w'
        go_simp
        with_reducible rfl
      rotate_left
      · simp only [Act.put, List.setIfInBounds_toArray, List.set_cons_zero, List.set_cons_succ, i64_w, i32_w]
        rfl
      refine pure_ (i := 60) (N := some 98) (v := ?_) (a' := ?_) tb0_45 rfl rfl (any_of HT_.out J8) (fun _ _ _ h => h) (Or.inl ⟨J38, ?_⟩) ?_ ?_
      rotate_left
      · intro w'
        go_simp
        with_reducible rfl
      rotate_left
      · simp only [Act.put, List.setIfInBounds_toArray, List.set_cons_zero, List.set_cons_succ, i64_w, i32_w]
        rfl
      refine pure_ (i := 61) (N := some 99) (v := ?_) (a' := ?_) tb0_44 rfl rfl (any_of HT_.out J8) (fun _ _ _ h => h) (Or.inl ⟨J38, ?_⟩) ?_ ?_
      rotate_left
      · intro w'
        go_simp
        with_reducible rfl
      rotate_left
      · simp only [Act.put, List.setIfInBounds_toArray, List.set_cons_zero, List.set_cons_succ, i64_w, i32_w]
        rfl
      refine one_ (i := 62) (N := some 100) tb0_43 rfl rfl (one_of HT_.out J8) J17 (fun K hK => ?_)
      refine goes_ Try.func18 J8 rfl #[.slice Ao33 y307.length co33] J38 rfl rfl (by (try simp only [List.map_toArray, List.map_cons, List.map_nil]); first | done | rfl | (rw [show y307 = y286 from Ny307.out.trans Ny286.out.symm]; rfl) | (simp only [List.length_drop, List.length_take]; rfl)) ?_
      with_reducible refine (array_Items.calls kj7 _ _ y307 t312 _ ?side1 ?side2 A65.out).mono ?_
      (case side1 => repeat (first | exact (Kd.V_reads' HO311.out).2.2 | (with_reducible refine Kd.C_alloc ?_ _) | (with_reducible refine Kd.C_drewN ?_ _) | (with_reducible refine Kd.C_drew ?_)))
      (case side2 => exact (Kd.V_reads' HO311.out).2.1)
      rintro e w100 ⟨rfl, hb⟩
      have HS0_ := (hb.cell (World.block_lt_of_cell? _ _ (hHeld))).trans (hHeld)
      refine ⟨_, rfl, ?_⟩
      have n0_ := Aside0.mk (Kd.N_below (zn HO_1.out) hb)
      have n1_ := Aside0.mk (Kd.N_below (zn HO_5.out) hb)
      have n2_ := Aside0.mk (Kd.N_below (zn HO_7.out) hb)
      have n4_ := Aside0.mk (Kd.N_below (zn HO298.out) hb)
      have n5_ := Aside0.mk (Kd.N_below (zn HO301.out) hb)
      have n7_ := Aside0.mk (below_step J0 hb)
      clear HO_1
      clear HO_5
      clear HO_7
      clear HO298
      clear HO301
      clear HB
      have HO_1 := n0_
      have HO_5 := n1_
      have HO_7 := n2_
      have HO298 := n4_
      have HO301 := n5_
      have HB := n7_
      clear n0_ n1_ n2_ n4_ n5_ n7_
      (try clear hb)
      (try clear hb2)
      (try clear hk)
      (try clear hi)
      refine hK.out _ _ (HS0_) (fun hHeld => ?_)
      clear hK K
      refine norm_ (a' := ?_) ?_ ?_
      rotate_left
      · show Act.put _ (some 100) _ = _
        simp only [Act.put, List.setIfInBounds_toArray, List.set_cons_zero, List.set_cons_succ, i64_w, i32_w]
        rfl
      refine pure_ (i := 63) (N := some 101) (v := ?_) (a' := ?_) tb0_42 rfl rfl (any_of HT_.out J8) (fun _ _ _ h => h) (Or.inl ⟨J38, ?_⟩) ?_ ?_
      rotate_left
      · intro w'
        go_simp
        with_reducible rfl
      rotate_left
      · simp only [Act.put, List.setIfInBounds_toArray, List.set_cons_zero, List.set_cons_succ, i64_w, i32_w]
        rfl
      refine pure_ (i := 64) (N := some 102) (v := ?_) (a' := ?_) tb0_41 rfl rfl (any_of HT_.out J8) (fun _ _ _ h => h) (Or.inl ⟨J38, ?_⟩) ?_ ?_
      rotate_left
      · intro w'
        go_simp
        with_reducible rfl
      rotate_left
      · simp only [Act.put, List.setIfInBounds_toArray, List.set_cons_zero, List.set_cons_succ, i64_w, i32_w]
        rfl
      refine pure_ (i := 65) (N := some 103) (v := ?_) (a' := ?_) tb0_40 rfl rfl (any_of HT_.out J8) (fun _ _ _ h => h) (Or.inl ⟨J38, ?_⟩) ?_ ?_
      rotate_left
      · intro w'
        go_simp
        with_reducible rfl
      rotate_left
      · simp only [Act.put, List.setIfInBounds_toArray, List.set_cons_zero, List.set_cons_succ, i64_w, i32_w]
        rfl
      refine pure_ (i := 66) (N := some 104) (v := ?_) (a' := ?_) tb0_39 rfl rfl (any_of HT_.out J8) (fun _ _ _ h => h) (Or.inl ⟨J38, ?_⟩) ?_ ?_
      rotate_left
      · intro w'
        go_simp
        with_reducible rfl
      rotate_left
      · simp only [Act.put, List.setIfInBounds_toArray, List.set_cons_zero, List.set_cons_succ, i64_w, i32_w]
        rfl
      refine pure_ (i := 67) (N := some 105) (v := ?_) (a' := ?_) tb0_38 rfl rfl (any_of HT_.out J8) (fun _ _ _ h => h) (Or.inl ⟨J38, ?_⟩) ?_ ?_
      rotate_left
      · intro w'
        go_simp
        with_reducible rfl
      rotate_left
      · simp only [Act.put, List.setIfInBounds_toArray, List.set_cons_zero, List.set_cons_succ, i64_w, i32_w]
        rfl
      refine take_ (i := 68) (N := some 106) (v := ?_) (a' := ?_) tb0_37 rfl rfl (take_ofW HT_.out HW_.out J8) (fun _ _ _ h => h) (Or.inl ⟨J38, ?_⟩) hHeld ?_ ?_
      rotate_left
      · intro w' s0
        go_simp
        with_reducible rfl
      rotate_left
      · simp only [Act.put, List.setIfInBounds_toArray, List.set_cons_zero, List.set_cons_succ, i64_w, i32_w]
        rfl
      refine one_ (i := 69) (N := some 107) tb0_36 rfl rfl (one_of HT_.out J8) J17 (fun K hK => ?_)
      refine goes_ Try.func27 J8 rfl #[.int .i64 4] J38 rfl rfl J1 ?_
      with_reducible refine (decklelaw10_one.calls 4 t314 _ A68.out).mono ?_
      rintro e w102 ⟨v315, rfl, ho0, hb⟩
      have HS0_ := (hb.cell (World.block_lt_of_cell? _ _ (hHeld))).trans (hHeld)
      refine ⟨_, rfl, ?_⟩
      have n0_ := Aside0.mk (Kd.N_elder' (zn HO_1.out) (Kd.N_base ho0) hb)
      have n1_ := Aside0.mk (Kd.N_elder' (zn HO_5.out) (Kd.N_base ho0) hb)
      have n2_ := Aside0.mk (Kd.N_elder' (zn HO_7.out) (Kd.N_base ho0) hb)
      have n4_ := Aside0.mk (Kd.N_elder' (zn HO298.out) (Kd.N_base ho0) hb)
      have n5_ := Aside0.mk (Kd.N_elder' (zn HO301.out) (Kd.N_base ho0) hb)
      have n8_ := Aside0.mk (Kd.N_lower (Kd.N_mono (ok' := fun k_ => some k_ ≠ (.slice Ao33 t257.length co33 : Value).ownBlock ∧ some k_ ≠ (.slice Ao83 t277.length co83 : Value).ownBlock ∧ some k_ ≠ (.slice (some ad313) t281.length co101 : Value).ownBlock ∧ some k_ ≠ (.slice Ao92 t296.length co92 : Value).ownBlock ∧ some k_ ≠ (.slice Ao93 y299.length co93 : Value).ownBlock) ho0 (fun k_ hk_ => ⟨(Kd.fresh' (Kd.N_lt (zn HO_1.out)) k_ hk_), (Kd.fresh' (Kd.N_lt (zn HO_5.out)) k_ hk_), (Kd.fresh' (Kd.N_lt (zn HO_7.out)) k_ hk_), (Kd.fresh' (Kd.N_lt (zn HO298.out)) k_ hk_), (Kd.fresh' (Kd.N_lt (zn HO301.out)) k_ hk_)⟩)) (below_size J0))
      have n10_ := Aside0.mk (below_step J0 hb)
      clear HO_1
      clear HO_5
      clear HO_7
      clear HO298
      clear HO301
      clear HB
      have HO_1 := n0_
      have HO_5 := n1_
      have HO_7 := n2_
      have HO298 := n4_
      have HO301 := n5_
      have HO316 := n8_
      have HB := n10_
      clear n0_ n1_ n2_ n4_ n5_ n8_ n10_
      (try clear hb)
      (try clear hb2)
      (try clear hk)
      (try clear hi)
      (try clear ho0)
      obtain ⟨Ao103, co103, eo103⟩ := Kd.N_slice HO316.out
      (first | subst eo103 | (injection eo103 with f1_ f2_ f3_; have f4_ := f1_.symm; have f5_ := f3_.symm; clear f1_ f2_ f3_; subst f4_; subst f5_))
      refine hK.out _ _ (HS0_) (fun hHeld => ?_)
      clear hK K
      refine norm_ (a' := ?_) ?_ ?_
      rotate_left
      · show Act.put _ (some 107) _ = _
        simp only [Act.put, List.setIfInBounds_toArray, List.set_cons_zero, List.set_cons_succ, i64_w, i32_w]
        rfl
      refine one_ (i := 70) (N := some 108) tb0_35 rfl rfl (one_of HT_.out J8) J17 (fun K hK => ?_)
      refine goes_ Try.func24 J8 rfl #[.slice A313_0 (rd_L5 t281 1).length c313_0, .slice Ao103 t314.length co103] J38 rfl rfl J1 ?_
      with_reducible refine (array_Same.calls kj7 _ _ (rd_L5 t281 1) _ _ t314 true _ ?side1 ?side2 ?side3 ?side4 A69.out).mono ?_
      (case side1 => (obtain ⟨adq, Aq, cq, eq_, hxq, _, hiq⟩ := at_L5 (Kd.N_reads' HO_7.out).2.2 1 (of_eq_true p313) (of_eq_true q313); cases eq_; (try simp only [show (1 : Int).toNat = 1 from rfl, Nat.reduceMul, Nat.reduceEqDiff, Go.Addr.add, ↓reduceIte] at hxq); have hyq := hxq.symm.trans hHeld; injection (Option.some.inj hyq) with h1q h2q h3q; rw [← h1q]; exact hiq))
      (case side2 => exact HC313_0.out)
      (case side3 => repeat (first | exact (Kd.N_reads' HO316.out).2.2 | (with_reducible refine Kd.C_alloc ?_ _) | (with_reducible refine Kd.C_drewN ?_ _) | (with_reducible refine Kd.C_drew ?_)))
      (case side4 => exact (Kd.N_reads' HO316.out).2.1)
      rintro e w104 ⟨rfl, hb⟩
      have HS0_ := (hb.cell (World.block_lt_of_cell? _ _ (hHeld))).trans (hHeld)
      refine ⟨_, rfl, ?_⟩
      have n0_ := Aside0.mk (Kd.N_below (zn HO_1.out) hb)
      have n1_ := Aside0.mk (Kd.N_below (zn HO_5.out) hb)
      have n2_ := Aside0.mk (Kd.N_below (zn HO_7.out) hb)
      have n4_ := Aside0.mk (Kd.N_below (zn HO298.out) hb)
      have n5_ := Aside0.mk (Kd.N_below (zn HO301.out) hb)
      have n8_ := Aside0.mk (Kd.N_below (zn HO316.out) hb)
      have n10_ := Aside0.mk (below_step J0 hb)
      clear HO_1
      clear HO_5
      clear HO_7
      clear HO298
      clear HO301
      clear HO316
      clear HB
      have HO_1 := n0_
      have HO_5 := n1_
      have HO_7 := n2_
      have HO298 := n4_
      have HO301 := n5_
      have HO316 := n8_
      have HB := n10_
      clear n0_ n1_ n2_ n4_ n5_ n8_ n10_
      (try clear hb)
      (try clear hb2)
      (try clear hk)
      (try clear hi)
      refine hK.out _ _ (HS0_) (fun hHeld => ?_)
      clear hK K
      refine norm_ (a' := ?_) ?_ ?_
      rotate_left
      · show Act.put _ (some 108) _ = _
        simp only [Act.put, List.setIfInBounds_toArray, List.set_cons_zero, List.set_cons_succ, i64_w, i32_w]
        rfl
      refine pure_ (i := 71) (N := some 109) (v := ?_) (a' := ?_) tb0_34 rfl rfl (any_of HT_.out J8) (fun _ _ _ h => h) (Or.inl ⟨J38, ?_⟩) ?_ ?_
      rotate_left
      · intro w'
        go_simp
        with_reducible rfl
      rotate_left
      · simp only [Act.put, List.setIfInBounds_toArray, List.set_cons_zero, List.set_cons_succ, i64_w, i32_w]
        rfl
      refine pure_ (i := 72) (N := some 110) (v := ?_) (a' := ?_) tb0_33 rfl rfl (any_of HT_.out J8) (fun _ _ _ h => h) (Or.inl ⟨J38, ?_⟩) ?_ ?_
      rotate_left
      · intro w'
        go_simp
        with_reducible rfl
      rotate_left
      · simp only [Act.put, List.setIfInBounds_toArray, List.set_cons_zero, List.set_cons_succ, i64_w, i32_w]
        rfl
      refine one_ (i := 73) (N := some 111) tb0_32 rfl rfl (one_of HT_.out J8) J17 (fun K hK => ?_)
      refine goes_ Try.func27 J8 rfl #[.int .i64 3] J38 rfl rfl J1 ?_
      with_reducible refine (decklelaw10_one.calls 3 t318 _ A71.out).mono ?_
      rintro e w105 ⟨v319, rfl, ho0, hb⟩
      have HS0_ := (hb.cell (World.block_lt_of_cell? _ _ (hHeld))).trans (hHeld)
      refine ⟨_, rfl, ?_⟩
      have n0_ := Aside0.mk (Kd.N_elder' (zn HO_1.out) (Kd.N_base ho0) hb)
      have n1_ := Aside0.mk (Kd.N_elder' (zn HO_5.out) (Kd.N_base ho0) hb)
      have n2_ := Aside0.mk (Kd.N_elder' (zn HO_7.out) (Kd.N_base ho0) hb)
      have n4_ := Aside0.mk (Kd.N_elder' (zn HO298.out) (Kd.N_base ho0) hb)
      have n5_ := Aside0.mk (Kd.N_elder' (zn HO301.out) (Kd.N_base ho0) hb)
      have n8_ := Aside0.mk (Kd.N_elder' (zn HO316.out) (Kd.N_base ho0) hb)
      have n9_ := Aside0.mk (Kd.N_lower (Kd.N_mono (ok' := fun k_ => some k_ ≠ (.slice Ao33 t257.length co33 : Value).ownBlock ∧ some k_ ≠ (.slice Ao83 t277.length co83 : Value).ownBlock ∧ some k_ ≠ (.slice (some ad313) t281.length co101 : Value).ownBlock ∧ some k_ ≠ (.slice Ao92 t296.length co92 : Value).ownBlock ∧ some k_ ≠ (.slice Ao93 y299.length co93 : Value).ownBlock ∧ some k_ ≠ (.slice Ao103 t314.length co103 : Value).ownBlock) ho0 (fun k_ hk_ => ⟨(Kd.fresh' (Kd.N_lt (zn HO_1.out)) k_ hk_), (Kd.fresh' (Kd.N_lt (zn HO_5.out)) k_ hk_), (Kd.fresh' (Kd.N_lt (zn HO_7.out)) k_ hk_), (Kd.fresh' (Kd.N_lt (zn HO298.out)) k_ hk_), (Kd.fresh' (Kd.N_lt (zn HO301.out)) k_ hk_), (Kd.fresh' (Kd.N_lt (zn HO316.out)) k_ hk_)⟩)) (below_size J0))
      have n11_ := Aside0.mk (below_step J0 hb)
      clear HO_1
      clear HO_5
      clear HO_7
      clear HO298
      clear HO301
      clear HO316
      clear HB
      have HO_1 := n0_
      have HO_5 := n1_
      have HO_7 := n2_
      have HO298 := n4_
      have HO301 := n5_
      have HO316 := n8_
      have HO320 := n9_
      have HB := n11_
      clear n0_ n1_ n2_ n4_ n5_ n8_ n9_ n11_
      (try clear hb)
      (try clear hb2)
      (try clear hk)
      (try clear hi)
      (try clear ho0)
      refine hK.out _ _ (HS0_) (fun hHeld => ?_)
      clear hK K
      refine norm_ (a' := ?_) ?_ ?_
      rotate_left
      · show Act.put _ (some 111) _ = _
        simp only [Act.put, List.setIfInBounds_toArray, List.set_cons_zero, List.set_cons_succ, i64_w, i32_w]
        rfl
      refine one_ (i := 74) (N := some 112) tb0_31 rfl rfl (one_of HT_.out J8) J17 (fun K hK => ?_)
      refine goes_ Try.func27 J8 rfl #[.int .i64 4] J38 rfl rfl J1 ?_
      with_reducible refine (decklelaw10_one.calls 4 t321 _ A72.out).mono ?_
      rintro e w106 ⟨v322, rfl, ho0, hb⟩
      have HS0_ := (hb.cell (World.block_lt_of_cell? _ _ (hHeld))).trans (hHeld)
      refine ⟨_, rfl, ?_⟩
      have n0_ := Aside0.mk (Kd.N_elder' (zn HO_1.out) (Kd.N_base ho0) hb)
      have n1_ := Aside0.mk (Kd.N_elder' (zn HO_5.out) (Kd.N_base ho0) hb)
      have n2_ := Aside0.mk (Kd.N_elder' (zn HO_7.out) (Kd.N_base ho0) hb)
      have n4_ := Aside0.mk (Kd.N_elder' (zn HO298.out) (Kd.N_base ho0) hb)
      have n5_ := Aside0.mk (Kd.N_elder' (zn HO301.out) (Kd.N_base ho0) hb)
      have n8_ := Aside0.mk (Kd.N_elder' (zn HO316.out) (Kd.N_base ho0) hb)
      have n9_ := Aside0.mk (Kd.N_elder' (zn HO320.out) (Kd.N_base ho0) hb)
      have n10_ := Aside0.mk (Kd.N_lower (Kd.N_mono (ok' := fun k_ => some k_ ≠ (.slice Ao33 t257.length co33 : Value).ownBlock ∧ some k_ ≠ (.slice Ao83 t277.length co83 : Value).ownBlock ∧ some k_ ≠ (.slice (some ad313) t281.length co101 : Value).ownBlock ∧ some k_ ≠ (.slice Ao92 t296.length co92 : Value).ownBlock ∧ some k_ ≠ (.slice Ao93 y299.length co93 : Value).ownBlock ∧ some k_ ≠ (.slice Ao103 t314.length co103 : Value).ownBlock ∧ some k_ ≠ (v319 : Value).ownBlock) ho0 (fun k_ hk_ => ⟨(Kd.fresh' (Kd.N_lt (zn HO_1.out)) k_ hk_), (Kd.fresh' (Kd.N_lt (zn HO_5.out)) k_ hk_), (Kd.fresh' (Kd.N_lt (zn HO_7.out)) k_ hk_), (Kd.fresh' (Kd.N_lt (zn HO298.out)) k_ hk_), (Kd.fresh' (Kd.N_lt (zn HO301.out)) k_ hk_), (Kd.fresh' (Kd.N_lt (zn HO316.out)) k_ hk_), (Kd.fresh' (Kd.N_lt (zn HO320.out)) k_ hk_)⟩)) (below_size J0))
      have n12_ := Aside0.mk (below_step J0 hb)
      clear HO_1
      clear HO_5
      clear HO_7
      clear HO298
      clear HO301
      clear HO316
      clear HO320
      clear HB
      have HO_1 := n0_
      have HO_5 := n1_
      have HO_7 := n2_
      have HO298 := n4_
      have HO301 := n5_
      have HO316 := n8_
      have HO320 := n9_
      have HO323 := n10_
      have HB := n12_
      clear n0_ n1_ n2_ n4_ n5_ n8_ n9_ n10_ n12_
      (try clear hb)
      (try clear hb2)
      (try clear hk)
      (try clear hi)
      (try clear ho0)
      obtain ⟨Ao107, co107, eo107⟩ := Kd.N_slice HO320.out
      (first | subst eo107 | (injection eo107 with f1_ f2_ f3_; have f4_ := f1_.symm; have f5_ := f3_.symm; clear f1_ f2_ f3_; subst f4_; subst f5_))
      obtain ⟨Ao108, co108, eo108⟩ := Kd.N_slice HO323.out
      (first | subst eo108 | (injection eo108 with f1_ f2_ f3_; have f4_ := f1_.symm; have f5_ := f3_.symm; clear f1_ f2_ f3_; subst f4_; subst f5_))
      refine hK.out _ _ (HS0_) (fun hHeld => ?_)
      clear hK K
      refine norm_ (a' := ?_) ?_ ?_
      rotate_left
      · show Act.put _ (some 112) _ = _
        simp only [Act.put, List.setIfInBounds_toArray, List.set_cons_zero, List.set_cons_succ, i64_w, i32_w]
        rfl
      refine one_ (i := 75) (N := some 113) tb0_30 rfl rfl (one_of HT_.out J8) J17 (fun K hK => ?_)
      refine goes_ Try.func24 J8 rfl #[.slice Ao107 t318.length co107, .slice Ao108 t321.length co108] J38 rfl rfl J1 ?_
      with_reducible refine (array_Same.calls kj7 _ _ t318 _ _ t321 false _ ?side1 ?side2 ?side3 ?side4 A73.out).mono ?_
      (case side1 => repeat (first | exact (Kd.N_reads' HO320.out).2.2 | (with_reducible refine Kd.C_alloc ?_ _) | (with_reducible refine Kd.C_drewN ?_ _) | (with_reducible refine Kd.C_drew ?_)))
      (case side2 => exact (Kd.N_reads' HO320.out).2.1)
      (case side3 => repeat (first | exact (Kd.N_reads' HO323.out).2.2 | (with_reducible refine Kd.C_alloc ?_ _) | (with_reducible refine Kd.C_drewN ?_ _) | (with_reducible refine Kd.C_drew ?_)))
      (case side4 => exact (Kd.N_reads' HO323.out).2.1)
      rintro e w109 ⟨rfl, hb⟩
      have HS0_ := (hb.cell (World.block_lt_of_cell? _ _ (hHeld))).trans (hHeld)
      refine ⟨_, rfl, ?_⟩
      have n0_ := Aside0.mk (Kd.N_below (zn HO_1.out) hb)
      have n1_ := Aside0.mk (Kd.N_below (zn HO_5.out) hb)
      have n2_ := Aside0.mk (Kd.N_below (zn HO_7.out) hb)
      have n4_ := Aside0.mk (Kd.N_below (zn HO298.out) hb)
      have n5_ := Aside0.mk (Kd.N_below (zn HO301.out) hb)
      have n8_ := Aside0.mk (Kd.N_below (zn HO316.out) hb)
      have n9_ := Aside0.mk (Kd.N_below (zn HO320.out) hb)
      have n10_ := Aside0.mk (Kd.N_below (zn HO323.out) hb)
      have n12_ := Aside0.mk (below_step J0 hb)
      clear HO_1
      clear HO_5
      clear HO_7
      clear HO298
      clear HO301
      clear HO316
      clear HO320
      clear HO323
      clear HB
      have HO_1 := n0_
      have HO_5 := n1_
      have HO_7 := n2_
      have HO298 := n4_
      have HO301 := n5_
      have HO316 := n8_
      have HO320 := n9_
      have HO323 := n10_
      have HB := n12_
      clear n0_ n1_ n2_ n4_ n5_ n8_ n9_ n10_ n12_
      (try clear hb)
      (try clear hb2)
      (try clear hk)
      (try clear hi)
      refine hK.out _ _ (HS0_) (fun hHeld => ?_)
      clear hK K
      refine norm_ (a' := ?_) ?_ ?_
      rotate_left
      · show Act.put _ (some 113) _ = _
        simp only [Act.put, List.setIfInBounds_toArray, List.set_cons_zero, List.set_cons_succ, i64_w, i32_w]
        rfl
      refine pure_ (i := 76) (N := some 114) (v := ?_) (a' := ?_) tb0_29 rfl rfl (any_of HT_.out J8) (fun _ _ _ h => h) (Or.inl ⟨J38, ?_⟩) ?_ ?_
      rotate_left
      · intro w'
        go_simp
        with_reducible rfl
      rotate_left
      · simp only [Act.put, List.setIfInBounds_toArray, List.set_cons_zero, List.set_cons_succ, i64_w, i32_w]
        rfl
      refine pure_ (i := 77) (N := some 115) (v := ?_) (a' := ?_) tb0_28 rfl rfl (any_of HT_.out J8) (fun _ _ _ h => h) (Or.inl ⟨J38, ?_⟩) ?_ ?_
      rotate_left
      · intro w'
        go_simp
        with_reducible rfl
      rotate_left
      · simp only [Act.put, List.setIfInBounds_toArray, List.set_cons_zero, List.set_cons_succ, i64_w, i32_w]
        rfl
      refine pure_ (i := 78) (N := some 116) (v := ?_) (a' := ?_) tb0_27 rfl rfl (any_of HT_.out J8) (fun _ _ _ h => h) (Or.inl ⟨J38, ?_⟩) ?_ ?_
      rotate_left
      · intro w'
        go_simp
        with_reducible rfl
      rotate_left
      · simp only [Act.put, List.setIfInBounds_toArray, List.set_cons_zero, List.set_cons_succ, i64_w, i32_w]
        rfl
      refine one_ (i := 79) (N := some 117) tb0_26 rfl rfl (one_of HT_.out J8) J17 (fun K hK => ?_)
      refine Kd.R_lit_step (Kd.int .i64) _ 3 ?hg (N := 117) ?hd (xs := ([2] : List Int)) (inner := [.int .i64 2]) (ok := fun _ => True) (okp := fun _ => True) ?hr ?hp (fun _ hk => hk) trivial (Below.refl _ _) (Nat.le_refl _) J21 ?_; (case hd => rfl); (case hg => rfl); (case hr => first | (go_simp; done) | (go_simp; rfl)); (case hp => exact (Reps.one (show Kd.M (Kd.int .i64) _ _ _ 2 [.int .i64 2] from rfl) (Reps.none _ _)))
      intro v326 w110 ho111 hb hg_ hnew_
      have HS0_ := (hb.cell (World.block_lt_of_cell? _ _ (hHeld))).trans (hHeld)
      clear hg_ hnew_
      (first | rw [← Ny325.out] at ho111 | (simp only [Int.reduceToNat] at ho111; rw [← Ny325.out] at ho111))
      have n0_ := Aside0.mk (Kd.N_elder' (zn HO_1.out) (Kd.R_base ho111) hb)
      have n1_ := Aside0.mk (Kd.N_elder' (zn HO_5.out) (Kd.R_base ho111) hb)
      have n2_ := Aside0.mk (Kd.N_elder' (zn HO_7.out) (Kd.R_base ho111) hb)
      have n4_ := Aside0.mk (Kd.N_elder' (zn HO298.out) (Kd.R_base ho111) hb)
      have n5_ := Aside0.mk (Kd.N_elder' (zn HO301.out) (Kd.R_base ho111) hb)
      have n8_ := Aside0.mk (Kd.N_elder' (zn HO316.out) (Kd.R_base ho111) hb)
      have n9_ := Aside0.mk (Kd.N_elder' (zn HO320.out) (Kd.R_base ho111) hb)
      have n10_ := Aside0.mk (Kd.N_elder' (zn HO323.out) (Kd.R_base ho111) hb)
      have n11_ := Aside0.mk (Kd.R_lower ho111 (below_size J0))
      have n13_ := Aside0.mk (below_step J0 hb)
      clear HO_1
      clear HO_5
      clear HO_7
      clear HO298
      clear HO301
      clear HO316
      clear HO320
      clear HO323
      clear HB
      have HO_1 := n0_
      have HO_5 := n1_
      have HO_7 := n2_
      have HO298 := n4_
      have HO301 := n5_
      have HO316 := n8_
      have HO320 := n9_
      have HO323 := n10_
      have HO327 := n11_
      have HB := n13_
      clear n0_ n1_ n2_ n4_ n5_ n8_ n9_ n10_ n11_ n13_
      clear hb ho111
      obtain ⟨Ao112, co112, eo112⟩ := Kd.R_slice HO327.out
      (first | subst eo112 | (injection eo112 with f1_ f2_ f3_; have f4_ := f1_.symm; have f5_ := f3_.symm; clear f1_ f2_ f3_; subst f4_; subst f5_))
      refine hK.out _ _ (HS0_) (fun hHeld => ?_)
      clear hK K
      refine norm_ (a' := ?_) ?_ ?_
      rotate_left
      · show Act.put _ (some 117) _ = _
        simp only [Act.put, List.setIfInBounds_toArray, List.set_cons_zero, List.set_cons_succ, i64_w, i32_w]
        rfl
      refine pure_ (i := 80) (N := some 118) (v := ?_) (a' := ?_) tb0_25 rfl rfl (any_of HT_.out J8) (fun _ _ _ h => h) (Or.inl ⟨J38, ?_⟩) ?_ ?_
      rotate_left
      · intro w'
        go_simp
        with_reducible rfl
      rotate_left
      · simp only [Act.put, List.setIfInBounds_toArray, List.set_cons_zero, List.set_cons_succ, i64_w, i32_w]
        rfl
      refine one_ (i := 81) (N := some 119) tb0_24 rfl rfl (one_of HT_.out J8) J17 (fun K hK => ?_)
      refine Kd.N_lit_step k32 _ 32 ?hg (N' := 119) ?hd (xs := ([(⟨1, ([] : List Int), y325, ([] : List (S41))⟩ : S32)] : List (S32))) (inner := [.int .i64 1, .slice none 0 0, .slice Ao112 y325.length co112, .slice none 0 0]) (ok := (fun k_ => some k_ ≠ (.slice Ao33 t257.length co33 : Value).ownBlock ∧ some k_ ≠ (.slice Ao83 t277.length co83 : Value).ownBlock ∧ some k_ ≠ (.slice (some ad313) t281.length co101 : Value).ownBlock ∧ some k_ ≠ (.slice Ao92 t296.length co92 : Value).ownBlock ∧ some k_ ≠ (.slice Ao93 y299.length co93 : Value).ownBlock ∧ some k_ ≠ (.slice Ao103 t314.length co103 : Value).ownBlock ∧ some k_ ≠ (.slice Ao107 t318.length co107 : Value).ownBlock ∧ some k_ ≠ (.slice Ao108 t321.length co108 : Value).ownBlock)) (okp := (fun k_ => some k_ ≠ (.slice Ao33 t257.length co33 : Value).ownBlock ∧ some k_ ≠ (.slice Ao83 t277.length co83 : Value).ownBlock ∧ some k_ ≠ (.slice (some ad313) t281.length co101 : Value).ownBlock ∧ some k_ ≠ (.slice Ao92 t296.length co92 : Value).ownBlock ∧ some k_ ≠ (.slice Ao93 y299.length co93 : Value).ownBlock ∧ some k_ ≠ (.slice Ao103 t314.length co103 : Value).ownBlock ∧ some k_ ≠ (.slice Ao107 t318.length co107 : Value).ownBlock ∧ some k_ ≠ (.slice Ao108 t321.length co108 : Value).ownBlock)) ?hr ?hp (fun _ hk => hk) ((show ∀ k_, w110.heap.size ≤ k_ → (fun k_ => some k_ ≠ (.slice Ao33 t257.length co33 : Value).ownBlock ∧ some k_ ≠ (.slice Ao83 t277.length co83 : Value).ownBlock ∧ some k_ ≠ (.slice (some ad313) t281.length co101 : Value).ownBlock ∧ some k_ ≠ (.slice Ao92 t296.length co92 : Value).ownBlock ∧ some k_ ≠ (.slice Ao93 y299.length co93 : Value).ownBlock ∧ some k_ ≠ (.slice Ao103 t314.length co103 : Value).ownBlock ∧ some k_ ≠ (.slice Ao107 t318.length co107 : Value).ownBlock ∧ some k_ ≠ (.slice Ao108 t321.length co108 : Value).ownBlock) k_ from fun k_ hk => ⟨Kd.fresh' (Kd.N_lt (zn HO_1.out)) k_ hk, Kd.fresh' (Kd.N_lt (zn HO_5.out)) k_ hk, Kd.fresh' (Kd.N_lt (zn HO_7.out)) k_ hk, Kd.fresh' (Kd.N_lt (zn HO298.out)) k_ hk, Kd.fresh' (Kd.N_lt (zn HO301.out)) k_ hk, Kd.fresh' (Kd.N_lt (zn HO316.out)) k_ hk, Kd.fresh' (Kd.N_lt (zn HO320.out)) k_ hk, Kd.fresh' (Kd.N_lt (zn HO323.out)) k_ hk⟩) _ (Nat.le_refl _)) (Below.refl _ _) (Nat.le_refl _) J21 ?_; (case hd => rfl); (case hg => rfl); (case hr => first | (go_simp; done) | (go_simp; rfl)); (case hp => exact (Reps.c4 (show Kd.FK k32 _ _ (⟨1, ([] : List Int), y325, ([] : List (S41))⟩ : S32) [.int .i64 1, .slice none 0 0, .slice Ao112 y325.length co112, .slice none 0 0] from (k32_mkF _ _ (⟨1, ([] : List Int), y325, ([] : List (S41))⟩ : S32) (Nat.le_refl _) (Kd.F_nil _ _ _) (Kd.R_reads' (Kd.R_mono (ok' := (fun k_ => some k_ ≠ (.slice Ao33 t257.length co33 : Value).ownBlock ∧ some k_ ≠ (.slice Ao83 t277.length co83 : Value).ownBlock ∧ some k_ ≠ (.slice (some ad313) t281.length co101 : Value).ownBlock ∧ some k_ ≠ (.slice Ao92 t296.length co92 : Value).ownBlock ∧ some k_ ≠ (.slice Ao93 y299.length co93 : Value).ownBlock ∧ some k_ ≠ (.slice Ao103 t314.length co103 : Value).ownBlock ∧ some k_ ≠ (.slice Ao107 t318.length co107 : Value).ownBlock ∧ some k_ ≠ (.slice Ao108 t321.length co108 : Value).ownBlock)) (Kd.R_apart' (Kd.R_apart' (Kd.R_apart' (Kd.R_apart' (Kd.R_apart' (Kd.R_apart' (Kd.R_apart' (Kd.R_apart' (HO327.out) (Kd.N_typed HO_1.out) J17) (Kd.N_typed HO_5.out) J17) (Kd.N_typed HO_7.out) J17) (Kd.N_typed HO298.out) J17) (Kd.N_typed HO301.out) J17) (Kd.N_typed HO316.out) J17) (Kd.N_typed HO320.out) J17) (Kd.N_typed HO323.out) J17) (fun k_ hk => ⟨hk.1.1.1.1.1.1.1.2, ⟨hk.1.1.1.1.1.1.2, ⟨hk.1.1.1.1.1.2, ⟨hk.1.1.1.1.2, ⟨hk.1.1.1.2, ⟨hk.1.1.2, ⟨hk.1.2, hk.2⟩⟩⟩⟩⟩⟩⟩))).2.1 (Kd.R_F (Kd.R_mono (ok' := (fun k_ => some k_ ≠ (.slice Ao33 t257.length co33 : Value).ownBlock ∧ some k_ ≠ (.slice Ao83 t277.length co83 : Value).ownBlock ∧ some k_ ≠ (.slice (some ad313) t281.length co101 : Value).ownBlock ∧ some k_ ≠ (.slice Ao92 t296.length co92 : Value).ownBlock ∧ some k_ ≠ (.slice Ao93 y299.length co93 : Value).ownBlock ∧ some k_ ≠ (.slice Ao103 t314.length co103 : Value).ownBlock ∧ some k_ ≠ (.slice Ao107 t318.length co107 : Value).ownBlock ∧ some k_ ≠ (.slice Ao108 t321.length co108 : Value).ownBlock)) (Kd.R_apart' (Kd.R_apart' (Kd.R_apart' (Kd.R_apart' (Kd.R_apart' (Kd.R_apart' (Kd.R_apart' (Kd.R_apart' (HO327.out) (Kd.N_typed HO_1.out) J17) (Kd.N_typed HO_5.out) J17) (Kd.N_typed HO_7.out) J17) (Kd.N_typed HO298.out) J17) (Kd.N_typed HO301.out) J17) (Kd.N_typed HO316.out) J17) (Kd.N_typed HO320.out) J17) (Kd.N_typed HO323.out) J17) (fun k_ hk => ⟨hk.1.1.1.1.1.1.1.2, ⟨hk.1.1.1.1.1.1.2, ⟨hk.1.1.1.1.1.2, ⟨hk.1.1.1.1.2, ⟨hk.1.1.1.2, ⟨hk.1.1.2, ⟨hk.1.2, hk.2⟩⟩⟩⟩⟩⟩⟩))) (Nat.le_refl _) (Kd.F_nil _ _ _))) (Reps.none _ _)))
      intro v329 w113 ho114 hb hg_ hnew_
      have HS0_ := (hb.cell (World.block_lt_of_cell? _ _ (hHeld))).trans (hHeld)
      clear hg_ hnew_
      (first | rw [← Ny328.out] at ho114 | (simp only [Int.reduceToNat] at ho114; rw [← Ny328.out] at ho114))
      have n0_ := Aside0.mk (Kd.N_elder' (zn HO_1.out) (Kd.N_base ho114) hb)
      have n1_ := Aside0.mk (Kd.N_elder' (zn HO_5.out) (Kd.N_base ho114) hb)
      have n2_ := Aside0.mk (Kd.N_elder' (zn HO_7.out) (Kd.N_base ho114) hb)
      have n4_ := Aside0.mk (Kd.N_elder' (zn HO298.out) (Kd.N_base ho114) hb)
      have n5_ := Aside0.mk (Kd.N_elder' (zn HO301.out) (Kd.N_base ho114) hb)
      have n8_ := Aside0.mk (Kd.N_elder' (zn HO316.out) (Kd.N_base ho114) hb)
      have n9_ := Aside0.mk (Kd.N_elder' (zn HO320.out) (Kd.N_base ho114) hb)
      have n10_ := Aside0.mk (Kd.N_elder' (zn HO323.out) (Kd.N_base ho114) hb)
      have n11_ := Aside0.mk (Kd.N_lower ho114 (below_size J0))
      have n13_ := Aside0.mk (below_step J0 hb)
      clear HO_1
      clear HO_5
      clear HO_7
      clear HO298
      clear HO301
      clear HO316
      clear HO320
      clear HO323
      clear HB
      clear HO327
      have HO_1 := n0_
      have HO_5 := n1_
      have HO_7 := n2_
      have HO298 := n4_
      have HO301 := n5_
      have HO316 := n8_
      have HO320 := n9_
      have HO323 := n10_
      have HO330 := n11_
      have HB := n13_
      clear n0_ n1_ n2_ n4_ n5_ n8_ n9_ n10_ n11_ n13_
      clear hb ho114
      obtain ⟨Ao115, co115, eo115⟩ := Kd.N_slice HO330.out
      (first | subst eo115 | (injection eo115 with f1_ f2_ f3_; have f4_ := f1_.symm; have f5_ := f3_.symm; clear f1_ f2_ f3_; subst f4_; subst f5_))
      refine hK.out _ _ (HS0_) (fun hHeld => ?_)
      clear hK K
      refine norm_ (a' := ?_) ?_ ?_
      rotate_left
      · show Act.put _ (some 119) _ = _
        simp only [Act.put, List.setIfInBounds_toArray, List.set_cons_zero, List.set_cons_succ, i64_w, i32_w]
        rfl
      refine one_ (i := 82) (N := some 120) tb0_23 rfl rfl (one_of HT_.out J8) J17 (fun K hK => ?_)
      refine goes_ Try.func14 J8 rfl #[.slice Ao115 y328.length co115] J38 rfl rfl J1 ?_
      with_reducible refine (array_Right.calls kj7 _ _ y328 false _ ?side1 ?side2 A75.out).mono ?_
      (case side1 => repeat (first | exact (Kd.N_reads' HO330.out).2.2 | (with_reducible refine Kd.C_alloc ?_ _) | (with_reducible refine Kd.C_drewN ?_ _) | (with_reducible refine Kd.C_drew ?_)))
      (case side2 => exact (Kd.N_reads' HO330.out).2.1)
      rintro e w116 ⟨rfl, hb⟩
      have HS0_ := (hb.cell (World.block_lt_of_cell? _ _ (hHeld))).trans (hHeld)
      refine ⟨_, rfl, ?_⟩
      have n0_ := Aside0.mk (Kd.N_below (zn HO_1.out) hb)
      have n1_ := Aside0.mk (Kd.N_below (zn HO_5.out) hb)
      have n2_ := Aside0.mk (Kd.N_below (zn HO_7.out) hb)
      have n4_ := Aside0.mk (Kd.N_below (zn HO298.out) hb)
      have n5_ := Aside0.mk (Kd.N_below (zn HO301.out) hb)
      have n8_ := Aside0.mk (Kd.N_below (zn HO316.out) hb)
      have n9_ := Aside0.mk (Kd.N_below (zn HO320.out) hb)
      have n10_ := Aside0.mk (Kd.N_below (zn HO323.out) hb)
      have n11_ := Aside0.mk (Kd.N_below (zn HO330.out) hb)
      have n13_ := Aside0.mk (below_step J0 hb)
      clear HO_1
      clear HO_5
      clear HO_7
      clear HO298
      clear HO301
      clear HO316
      clear HO320
      clear HO323
      clear HO330
      clear HB
      have HO_1 := n0_
      have HO_5 := n1_
      have HO_7 := n2_
      have HO298 := n4_
      have HO301 := n5_
      have HO316 := n8_
      have HO320 := n9_
      have HO323 := n10_
      have HO330 := n11_
      have HB := n13_
      clear n0_ n1_ n2_ n4_ n5_ n8_ n9_ n10_ n11_ n13_
      (try clear hb)
      (try clear hb2)
      (try clear hk)
      (try clear hi)
      refine hK.out _ _ (HS0_) (fun hHeld => ?_)
      clear hK K
      refine norm_ (a' := ?_) ?_ ?_
      rotate_left
      · show Act.put _ (some 120) _ = _
        simp only [Act.put, List.setIfInBounds_toArray, List.set_cons_zero, List.set_cons_succ, i64_w, i32_w]
        rfl
      refine pure_ (i := 83) (N := some 121) (v := ?_) (a' := ?_) tb0_22 rfl rfl (any_of HT_.out J8) (fun _ _ _ h => h) (Or.inl ⟨J38, ?_⟩) ?_ ?_
      rotate_left
      · intro w'
        go_simp
        with_reducible rfl
      rotate_left
      · simp only [Act.put, List.setIfInBounds_toArray, List.set_cons_zero, List.set_cons_succ, i64_w, i32_w]
        rfl
      refine pure_ (i := 84) (N := some 122) (v := ?_) (a' := ?_) tb0_21 rfl rfl (any_of HT_.out J8) (fun _ _ _ h => h) (Or.inl ⟨J38, ?_⟩) ?_ ?_
      rotate_left
      · intro w'
        go_simp
        with_reducible rfl
      rotate_left
      · simp only [Act.put, List.setIfInBounds_toArray, List.set_cons_zero, List.set_cons_succ, i64_w, i32_w]
        rfl
      refine pure_ (i := 85) (N := some 123) (v := ?_) (a' := ?_) tb0_20 rfl rfl (any_of HT_.out J8) (fun _ _ _ h => h) (Or.inl ⟨J38, ?_⟩) ?_ ?_
      rotate_left
      · intro w'
        go_simp
        with_reducible rfl
      rotate_left
      · simp only [Act.put, List.setIfInBounds_toArray, List.set_cons_zero, List.set_cons_succ, i64_w, i32_w]
        rfl
      refine pure_ (i := 86) (N := some 124) (v := ?_) (a' := ?_) tb0_19 rfl rfl (any_of HT_.out J8) (fun _ _ _ h => h) (Or.inl ⟨J38, ?_⟩) ?_ ?_
      rotate_left
      · intro w'
        go_simp
        with_reducible rfl
      rotate_left
      · simp only [Act.put, List.setIfInBounds_toArray, List.set_cons_zero, List.set_cons_succ, i64_w, i32_w]
        rfl
      refine one_ (i := 87) (N := some 125) tb0_18 rfl rfl (one_of HT_.out J8) J17 (fun K hK => ?_)
      refine Kd.N_lit_step k32 _ 32 ?hg (N' := 125) ?hd (xs := ([(⟨2, ([] : List Int), ([] : List Int), ([] : List (S41))⟩ : S32)] : List (S32))) (inner := [.int .i64 2, .slice none 0 0, .slice none 0 0, .slice none 0 0]) (ok := (fun k_ => some k_ ≠ (.slice Ao33 t257.length co33 : Value).ownBlock ∧ some k_ ≠ (.slice Ao83 t277.length co83 : Value).ownBlock ∧ some k_ ≠ (.slice (some ad313) t281.length co101 : Value).ownBlock ∧ some k_ ≠ (.slice Ao92 t296.length co92 : Value).ownBlock ∧ some k_ ≠ (.slice Ao93 y299.length co93 : Value).ownBlock ∧ some k_ ≠ (.slice Ao103 t314.length co103 : Value).ownBlock ∧ some k_ ≠ (.slice Ao107 t318.length co107 : Value).ownBlock ∧ some k_ ≠ (.slice Ao108 t321.length co108 : Value).ownBlock ∧ some k_ ≠ (.slice Ao115 y328.length co115 : Value).ownBlock)) (okp := (fun k_ => some k_ ≠ (.slice Ao33 t257.length co33 : Value).ownBlock ∧ some k_ ≠ (.slice Ao83 t277.length co83 : Value).ownBlock ∧ some k_ ≠ (.slice (some ad313) t281.length co101 : Value).ownBlock ∧ some k_ ≠ (.slice Ao92 t296.length co92 : Value).ownBlock ∧ some k_ ≠ (.slice Ao93 y299.length co93 : Value).ownBlock ∧ some k_ ≠ (.slice Ao103 t314.length co103 : Value).ownBlock ∧ some k_ ≠ (.slice Ao107 t318.length co107 : Value).ownBlock ∧ some k_ ≠ (.slice Ao108 t321.length co108 : Value).ownBlock ∧ some k_ ≠ (.slice Ao115 y328.length co115 : Value).ownBlock)) ?hr ?hp (fun _ hk => hk) ((show ∀ k_, w116.heap.size ≤ k_ → (fun k_ => some k_ ≠ (.slice Ao33 t257.length co33 : Value).ownBlock ∧ some k_ ≠ (.slice Ao83 t277.length co83 : Value).ownBlock ∧ some k_ ≠ (.slice (some ad313) t281.length co101 : Value).ownBlock ∧ some k_ ≠ (.slice Ao92 t296.length co92 : Value).ownBlock ∧ some k_ ≠ (.slice Ao93 y299.length co93 : Value).ownBlock ∧ some k_ ≠ (.slice Ao103 t314.length co103 : Value).ownBlock ∧ some k_ ≠ (.slice Ao107 t318.length co107 : Value).ownBlock ∧ some k_ ≠ (.slice Ao108 t321.length co108 : Value).ownBlock ∧ some k_ ≠ (.slice Ao115 y328.length co115 : Value).ownBlock) k_ from fun k_ hk => ⟨Kd.fresh' (Kd.N_lt (zn HO_1.out)) k_ hk, Kd.fresh' (Kd.N_lt (zn HO_5.out)) k_ hk, Kd.fresh' (Kd.N_lt (zn HO_7.out)) k_ hk, Kd.fresh' (Kd.N_lt (zn HO298.out)) k_ hk, Kd.fresh' (Kd.N_lt (zn HO301.out)) k_ hk, Kd.fresh' (Kd.N_lt (zn HO316.out)) k_ hk, Kd.fresh' (Kd.N_lt (zn HO320.out)) k_ hk, Kd.fresh' (Kd.N_lt (zn HO323.out)) k_ hk, Kd.fresh' (Kd.N_lt (zn HO330.out)) k_ hk⟩) _ (Nat.le_refl _)) (Below.refl _ _) (Nat.le_refl _) J21 ?_; (case hd => rfl); (case hg => rfl); (case hr => first | (go_simp; done) | (go_simp; rfl)); (case hp => exact (Reps.c4 (show Kd.FK k32 _ _ (⟨2, ([] : List Int), ([] : List Int), ([] : List (S41))⟩ : S32) [.int .i64 2, .slice none 0 0, .slice none 0 0, .slice none 0 0] from (k32_mkF _ _ (⟨2, ([] : List Int), ([] : List Int), ([] : List (S41))⟩ : S32) (Nat.le_refl _) (Kd.F_nil _ _ _) (Nat.le_refl _) (Kd.F_nil _ _ _) (Nat.le_refl _) (Kd.F_nil _ _ _))) (Reps.none _ _)))
      intro v333 w117 ho118 hb hg_ hnew_
      have HS0_ := (hb.cell (World.block_lt_of_cell? _ _ (hHeld))).trans (hHeld)
      clear hg_ hnew_
      (first | rw [← Ny332.out] at ho118 | (simp only [Int.reduceToNat] at ho118; rw [← Ny332.out] at ho118))
      have n0_ := Aside0.mk (Kd.N_elder' (zn HO_1.out) (Kd.N_base ho118) hb)
      have n1_ := Aside0.mk (Kd.N_elder' (zn HO_5.out) (Kd.N_base ho118) hb)
      have n2_ := Aside0.mk (Kd.N_elder' (zn HO_7.out) (Kd.N_base ho118) hb)
      have n4_ := Aside0.mk (Kd.N_elder' (zn HO298.out) (Kd.N_base ho118) hb)
      have n5_ := Aside0.mk (Kd.N_elder' (zn HO301.out) (Kd.N_base ho118) hb)
      have n8_ := Aside0.mk (Kd.N_elder' (zn HO316.out) (Kd.N_base ho118) hb)
      have n9_ := Aside0.mk (Kd.N_elder' (zn HO320.out) (Kd.N_base ho118) hb)
      have n10_ := Aside0.mk (Kd.N_elder' (zn HO323.out) (Kd.N_base ho118) hb)
      have n11_ := Aside0.mk (Kd.N_elder' (zn HO330.out) (Kd.N_base ho118) hb)
      have n12_ := Aside0.mk (Kd.N_lower ho118 (below_size J0))
      have n14_ := Aside0.mk (below_step J0 hb)
      clear HO_1
      clear HO_5
      clear HO_7
      clear HO298
      clear HO301
      clear HO316
      clear HO320
      clear HO323
      clear HO330
      clear HB
      have HO_1 := n0_
      have HO_5 := n1_
      have HO_7 := n2_
      have HO298 := n4_
      have HO301 := n5_
      have HO316 := n8_
      have HO320 := n9_
      have HO323 := n10_
      have HO330 := n11_
      have HO334 := n12_
      have HB := n14_
      clear n0_ n1_ n2_ n4_ n5_ n8_ n9_ n10_ n11_ n12_ n14_
      clear hb ho118
      obtain ⟨Ao119, co119, eo119⟩ := Kd.N_slice HO334.out
      (first | subst eo119 | (injection eo119 with f1_ f2_ f3_; have f4_ := f1_.symm; have f5_ := f3_.symm; clear f1_ f2_ f3_; subst f4_; subst f5_))
      refine hK.out _ _ (HS0_) (fun hHeld => ?_)
      clear hK K
      refine norm_ (a' := ?_) ?_ ?_
      rotate_left
      · show Act.put _ (some 125) _ = _
        simp only [Act.put, List.setIfInBounds_toArray, List.set_cons_zero, List.set_cons_succ, i64_w, i32_w]
        rfl
      refine one_ (i := 88) (N := some 126) tb0_17 rfl rfl (one_of HT_.out J8) J17 (fun K hK => ?_)
      refine goes_ Try.func14 J8 rfl #[.slice Ao119 y332.length co119] J38 rfl rfl J1 ?_
      with_reducible refine (array_Right.calls kj7 _ _ y332 false _ ?side1 ?side2 A77.out).mono ?_
      (case side1 => repeat (first | exact (Kd.N_reads' HO334.out).2.2 | (with_reducible refine Kd.C_alloc ?_ _) | (with_reducible refine Kd.C_drewN ?_ _) | (with_reducible refine Kd.C_drew ?_)))
      (case side2 => exact (Kd.N_reads' HO334.out).2.1)
      rintro e w120 ⟨rfl, hb⟩
      have HS0_ := (hb.cell (World.block_lt_of_cell? _ _ (hHeld))).trans (hHeld)
      refine ⟨_, rfl, ?_⟩
      have n0_ := Aside0.mk (Kd.N_below (zn HO_1.out) hb)
      have n1_ := Aside0.mk (Kd.N_below (zn HO_5.out) hb)
      have n2_ := Aside0.mk (Kd.N_below (zn HO_7.out) hb)
      have n4_ := Aside0.mk (Kd.N_below (zn HO298.out) hb)
      have n5_ := Aside0.mk (Kd.N_below (zn HO301.out) hb)
      have n8_ := Aside0.mk (Kd.N_below (zn HO316.out) hb)
      have n9_ := Aside0.mk (Kd.N_below (zn HO320.out) hb)
      have n10_ := Aside0.mk (Kd.N_below (zn HO323.out) hb)
      have n11_ := Aside0.mk (Kd.N_below (zn HO330.out) hb)
      have n12_ := Aside0.mk (Kd.N_below (zn HO334.out) hb)
      have n14_ := Aside0.mk (below_step J0 hb)
      clear HO_1
      clear HO_5
      clear HO_7
      clear HO298
      clear HO301
      clear HO316
      clear HO320
      clear HO323
      clear HO330
      clear HO334
      clear HB
      have HO_1 := n0_
      have HO_5 := n1_
      have HO_7 := n2_
      have HO298 := n4_
      have HO301 := n5_
      have HO316 := n8_
      have HO320 := n9_
      have HO323 := n10_
      have HO330 := n11_
      have HO334 := n12_
      have HB := n14_
      clear n0_ n1_ n2_ n4_ n5_ n8_ n9_ n10_ n11_ n12_ n14_
      (try clear hb)
      (try clear hb2)
      (try clear hk)
      (try clear hi)
      refine hK.out _ _ (HS0_) (fun hHeld => ?_)
      clear hK K
      refine norm_ (a' := ?_) ?_ ?_
      rotate_left
      · show Act.put _ (some 126) _ = _
        simp only [Act.put, List.setIfInBounds_toArray, List.set_cons_zero, List.set_cons_succ, i64_w, i32_w]
        rfl
      refine pure_ (i := 89) (N := some 127) (v := ?_) (a' := ?_) tb0_16 rfl rfl (any_of HT_.out J8) (fun _ _ _ h => h) (Or.inl ⟨J38, ?_⟩) ?_ ?_
      rotate_left
      · intro w'
        go_simp
        with_reducible rfl
      rotate_left
      · simp only [Act.put, List.setIfInBounds_toArray, List.set_cons_zero, List.set_cons_succ, i64_w, i32_w]
        rfl
      refine pure_ (i := 90) (N := some 128) (v := ?_) (a' := ?_) tb0_15 rfl rfl (any_of HT_.out J8) (fun _ _ _ h => h) (Or.inl ⟨J38, ?_⟩) ?_ ?_
      rotate_left
      · intro w'
        go_simp
        with_reducible rfl
      rotate_left
      · simp only [Act.put, List.setIfInBounds_toArray, List.set_cons_zero, List.set_cons_succ, i64_w, i32_w]
        rfl
      refine pure_ (i := 91) (N := some 129) (v := ?_) (a' := ?_) tb0_14 rfl rfl (any_of HT_.out J8) (fun _ _ _ h => h) (Or.inl ⟨J38, ?_⟩) ?_ ?_
      rotate_left
      · intro w'
        go_simp
        with_reducible rfl
      rotate_left
      · simp only [Act.put, List.setIfInBounds_toArray, List.set_cons_zero, List.set_cons_succ, i64_w, i32_w]
        rfl
      refine pure_ (i := 92) (N := some 130) (v := ?_) (a' := ?_) tb0_13 rfl rfl (any_of HT_.out J8) (fun _ _ _ h => h) (Or.inl ⟨J38, ?_⟩) ?_ ?_
      rotate_left
      · intro w'
        go_simp
        with_reducible rfl
      rotate_left
      · simp only [Act.put, List.setIfInBounds_toArray, List.set_cons_zero, List.set_cons_succ, i64_w, i32_w]
        rfl
      refine one_ (i := 93) (N := some 131) tb0_12 rfl rfl (one_of HT_.out J8) J17 (fun K hK => ?_)
      refine Kd.R_lit_step k41 _ 41 ?hg (N := 131) ?hd (xs := ([(⟨10, 0⟩ : S41)] : List (S41))) (inner := [.int .i64 10, .int .i64 0]) (ok := fun _ => True) (okp := fun _ => True) ?hr ?hp (fun _ hk => hk) trivial (Below.refl _ _) (Nat.le_refl _) J21 ?_; (case hd => rfl); (case hg => rfl); (case hr => first | (go_simp; done) | (go_simp; rfl)); (case hp => exact (Reps.c2 (show Kd.M k41 _ _ _ (⟨10, 0⟩ : S41) [.int .i64 10, .int .i64 0] from (k41_mkM _ _ _ (⟨10, 0⟩ : S41) )) (Reps.none _ _)))
      intro v337 w121 ho122 hb hg_ hnew_
      have HS0_ := (hb.cell (World.block_lt_of_cell? _ _ (hHeld))).trans (hHeld)
      clear hg_ hnew_
      (first | rw [← Ny336.out] at ho122 | (simp only [Int.reduceToNat] at ho122; rw [← Ny336.out] at ho122))
      have n0_ := Aside0.mk (Kd.N_elder' (zn HO_1.out) (Kd.R_base ho122) hb)
      have n1_ := Aside0.mk (Kd.N_elder' (zn HO_5.out) (Kd.R_base ho122) hb)
      have n2_ := Aside0.mk (Kd.N_elder' (zn HO_7.out) (Kd.R_base ho122) hb)
      have n4_ := Aside0.mk (Kd.N_elder' (zn HO298.out) (Kd.R_base ho122) hb)
      have n5_ := Aside0.mk (Kd.N_elder' (zn HO301.out) (Kd.R_base ho122) hb)
      have n8_ := Aside0.mk (Kd.N_elder' (zn HO316.out) (Kd.R_base ho122) hb)
      have n9_ := Aside0.mk (Kd.N_elder' (zn HO320.out) (Kd.R_base ho122) hb)
      have n10_ := Aside0.mk (Kd.N_elder' (zn HO323.out) (Kd.R_base ho122) hb)
      have n11_ := Aside0.mk (Kd.N_elder' (zn HO330.out) (Kd.R_base ho122) hb)
      have n12_ := Aside0.mk (Kd.N_elder' (zn HO334.out) (Kd.R_base ho122) hb)
      have n13_ := Aside0.mk (Kd.R_lower ho122 (below_size J0))
      have n15_ := Aside0.mk (below_step J0 hb)
      clear HO_1
      clear HO_5
      clear HO_7
      clear HO298
      clear HO301
      clear HO316
      clear HO320
      clear HO323
      clear HO330
      clear HO334
      clear HB
      have HO_1 := n0_
      have HO_5 := n1_
      have HO_7 := n2_
      have HO298 := n4_
      have HO301 := n5_
      have HO316 := n8_
      have HO320 := n9_
      have HO323 := n10_
      have HO330 := n11_
      have HO334 := n12_
      have HO338 := n13_
      have HB := n15_
      clear n0_ n1_ n2_ n4_ n5_ n8_ n9_ n10_ n11_ n12_ n13_ n15_
      clear hb ho122
      obtain ⟨Ao123, co123, eo123⟩ := Kd.R_slice HO338.out
      (first | subst eo123 | (injection eo123 with f1_ f2_ f3_; have f4_ := f1_.symm; have f5_ := f3_.symm; clear f1_ f2_ f3_; subst f4_; subst f5_))
      refine hK.out _ _ (HS0_) (fun hHeld => ?_)
      clear hK K
      refine norm_ (a' := ?_) ?_ ?_
      rotate_left
      · show Act.put _ (some 131) _ = _
        simp only [Act.put, List.setIfInBounds_toArray, List.set_cons_zero, List.set_cons_succ, i64_w, i32_w]
        rfl
      refine pure_ (i := 94) (N := some 132) (v := ?_) (a' := ?_) tb0_11 rfl rfl (any_of HT_.out J8) (fun _ _ _ h => h) (Or.inl ⟨J38, ?_⟩) ?_ ?_
      rotate_left
      · intro w'
        go_simp
        with_reducible rfl
      rotate_left
      · simp only [Act.put, List.setIfInBounds_toArray, List.set_cons_zero, List.set_cons_succ, i64_w, i32_w]
        rfl
      refine one_ (i := 95) (N := some 133) tb0_10 rfl rfl (one_of HT_.out J8) J17 (fun K hK => ?_)
      refine Kd.N_lit_step k32 _ 32 ?hg (N' := 133) ?hd (xs := ([(⟨4, ([] : List Int), ([] : List Int), y336⟩ : S32)] : List (S32))) (inner := [.int .i64 4, .slice none 0 0, .slice none 0 0, .slice Ao123 y336.length co123]) (ok := (fun k_ => some k_ ≠ (.slice Ao33 t257.length co33 : Value).ownBlock ∧ some k_ ≠ (.slice Ao83 t277.length co83 : Value).ownBlock ∧ some k_ ≠ (.slice (some ad313) t281.length co101 : Value).ownBlock ∧ some k_ ≠ (.slice Ao92 t296.length co92 : Value).ownBlock ∧ some k_ ≠ (.slice Ao93 y299.length co93 : Value).ownBlock ∧ some k_ ≠ (.slice Ao103 t314.length co103 : Value).ownBlock ∧ some k_ ≠ (.slice Ao107 t318.length co107 : Value).ownBlock ∧ some k_ ≠ (.slice Ao108 t321.length co108 : Value).ownBlock ∧ some k_ ≠ (.slice Ao115 y328.length co115 : Value).ownBlock ∧ some k_ ≠ (.slice Ao119 y332.length co119 : Value).ownBlock)) (okp := (fun k_ => some k_ ≠ (.slice Ao33 t257.length co33 : Value).ownBlock ∧ some k_ ≠ (.slice Ao83 t277.length co83 : Value).ownBlock ∧ some k_ ≠ (.slice (some ad313) t281.length co101 : Value).ownBlock ∧ some k_ ≠ (.slice Ao92 t296.length co92 : Value).ownBlock ∧ some k_ ≠ (.slice Ao93 y299.length co93 : Value).ownBlock ∧ some k_ ≠ (.slice Ao103 t314.length co103 : Value).ownBlock ∧ some k_ ≠ (.slice Ao107 t318.length co107 : Value).ownBlock ∧ some k_ ≠ (.slice Ao108 t321.length co108 : Value).ownBlock ∧ some k_ ≠ (.slice Ao115 y328.length co115 : Value).ownBlock ∧ some k_ ≠ (.slice Ao119 y332.length co119 : Value).ownBlock)) ?hr ?hp (fun _ hk => hk) ((show ∀ k_, w121.heap.size ≤ k_ → (fun k_ => some k_ ≠ (.slice Ao33 t257.length co33 : Value).ownBlock ∧ some k_ ≠ (.slice Ao83 t277.length co83 : Value).ownBlock ∧ some k_ ≠ (.slice (some ad313) t281.length co101 : Value).ownBlock ∧ some k_ ≠ (.slice Ao92 t296.length co92 : Value).ownBlock ∧ some k_ ≠ (.slice Ao93 y299.length co93 : Value).ownBlock ∧ some k_ ≠ (.slice Ao103 t314.length co103 : Value).ownBlock ∧ some k_ ≠ (.slice Ao107 t318.length co107 : Value).ownBlock ∧ some k_ ≠ (.slice Ao108 t321.length co108 : Value).ownBlock ∧ some k_ ≠ (.slice Ao115 y328.length co115 : Value).ownBlock ∧ some k_ ≠ (.slice Ao119 y332.length co119 : Value).ownBlock) k_ from fun k_ hk => ⟨Kd.fresh' (Kd.N_lt (zn HO_1.out)) k_ hk, Kd.fresh' (Kd.N_lt (zn HO_5.out)) k_ hk, Kd.fresh' (Kd.N_lt (zn HO_7.out)) k_ hk, Kd.fresh' (Kd.N_lt (zn HO298.out)) k_ hk, Kd.fresh' (Kd.N_lt (zn HO301.out)) k_ hk, Kd.fresh' (Kd.N_lt (zn HO316.out)) k_ hk, Kd.fresh' (Kd.N_lt (zn HO320.out)) k_ hk, Kd.fresh' (Kd.N_lt (zn HO323.out)) k_ hk, Kd.fresh' (Kd.N_lt (zn HO330.out)) k_ hk, Kd.fresh' (Kd.N_lt (zn HO334.out)) k_ hk⟩) _ (Nat.le_refl _)) (Below.refl _ _) (Nat.le_refl _) J21 ?_; (case hd => rfl); (case hg => rfl); (case hr => first | (go_simp; done) | (go_simp; rfl)); (case hp => exact (Reps.c4 (show Kd.FK k32 _ _ (⟨4, ([] : List Int), ([] : List Int), y336⟩ : S32) [.int .i64 4, .slice none 0 0, .slice none 0 0, .slice Ao123 y336.length co123] from (k32_mkF _ _ (⟨4, ([] : List Int), ([] : List Int), y336⟩ : S32) (Nat.le_refl _) (Kd.F_nil _ _ _) (Nat.le_refl _) (Kd.F_nil _ _ _) (Kd.R_reads' (Kd.R_mono (ok' := (fun k_ => some k_ ≠ (.slice Ao33 t257.length co33 : Value).ownBlock ∧ some k_ ≠ (.slice Ao83 t277.length co83 : Value).ownBlock ∧ some k_ ≠ (.slice (some ad313) t281.length co101 : Value).ownBlock ∧ some k_ ≠ (.slice Ao92 t296.length co92 : Value).ownBlock ∧ some k_ ≠ (.slice Ao93 y299.length co93 : Value).ownBlock ∧ some k_ ≠ (.slice Ao103 t314.length co103 : Value).ownBlock ∧ some k_ ≠ (.slice Ao107 t318.length co107 : Value).ownBlock ∧ some k_ ≠ (.slice Ao108 t321.length co108 : Value).ownBlock ∧ some k_ ≠ (.slice Ao115 y328.length co115 : Value).ownBlock ∧ some k_ ≠ (.slice Ao119 y332.length co119 : Value).ownBlock)) (Kd.R_apart' (Kd.R_apart' (Kd.R_apart' (Kd.R_apart' (Kd.R_apart' (Kd.R_apart' (Kd.R_apart' (Kd.R_apart' (Kd.R_apart' (Kd.R_apart' (HO338.out) (Kd.N_typed HO_1.out) J17) (Kd.N_typed HO_5.out) J17) (Kd.N_typed HO_7.out) J17) (Kd.N_typed HO298.out) J17) (Kd.N_typed HO301.out) J17) (Kd.N_typed HO316.out) J17) (Kd.N_typed HO320.out) J17) (Kd.N_typed HO323.out) J17) (Kd.N_typed HO330.out) J17) (Kd.N_typed HO334.out) J17) (fun k_ hk => ⟨hk.1.1.1.1.1.1.1.1.1.2, ⟨hk.1.1.1.1.1.1.1.1.2, ⟨hk.1.1.1.1.1.1.1.2, ⟨hk.1.1.1.1.1.1.2, ⟨hk.1.1.1.1.1.2, ⟨hk.1.1.1.1.2, ⟨hk.1.1.1.2, ⟨hk.1.1.2, ⟨hk.1.2, hk.2⟩⟩⟩⟩⟩⟩⟩⟩⟩))).2.1 (Kd.R_F (Kd.R_mono (ok' := (fun k_ => some k_ ≠ (.slice Ao33 t257.length co33 : Value).ownBlock ∧ some k_ ≠ (.slice Ao83 t277.length co83 : Value).ownBlock ∧ some k_ ≠ (.slice (some ad313) t281.length co101 : Value).ownBlock ∧ some k_ ≠ (.slice Ao92 t296.length co92 : Value).ownBlock ∧ some k_ ≠ (.slice Ao93 y299.length co93 : Value).ownBlock ∧ some k_ ≠ (.slice Ao103 t314.length co103 : Value).ownBlock ∧ some k_ ≠ (.slice Ao107 t318.length co107 : Value).ownBlock ∧ some k_ ≠ (.slice Ao108 t321.length co108 : Value).ownBlock ∧ some k_ ≠ (.slice Ao115 y328.length co115 : Value).ownBlock ∧ some k_ ≠ (.slice Ao119 y332.length co119 : Value).ownBlock)) (Kd.R_apart' (Kd.R_apart' (Kd.R_apart' (Kd.R_apart' (Kd.R_apart' (Kd.R_apart' (Kd.R_apart' (Kd.R_apart' (Kd.R_apart' (Kd.R_apart' (HO338.out) (Kd.N_typed HO_1.out) J17) (Kd.N_typed HO_5.out) J17) (Kd.N_typed HO_7.out) J17) (Kd.N_typed HO298.out) J17) (Kd.N_typed HO301.out) J17) (Kd.N_typed HO316.out) J17) (Kd.N_typed HO320.out) J17) (Kd.N_typed HO323.out) J17) (Kd.N_typed HO330.out) J17) (Kd.N_typed HO334.out) J17) (fun k_ hk => ⟨hk.1.1.1.1.1.1.1.1.1.2, ⟨hk.1.1.1.1.1.1.1.1.2, ⟨hk.1.1.1.1.1.1.1.2, ⟨hk.1.1.1.1.1.1.2, ⟨hk.1.1.1.1.1.2, ⟨hk.1.1.1.1.2, ⟨hk.1.1.1.2, ⟨hk.1.1.2, ⟨hk.1.2, hk.2⟩⟩⟩⟩⟩⟩⟩⟩⟩))))) (Reps.none _ _)))
      intro v340 w124 ho125 hb hg_ hnew_
      have HS0_ := (hb.cell (World.block_lt_of_cell? _ _ (hHeld))).trans (hHeld)
      clear hg_ hnew_
      (first | rw [← Ny339.out] at ho125 | (simp only [Int.reduceToNat] at ho125; rw [← Ny339.out] at ho125))
      have n0_ := Aside0.mk (Kd.N_elder' (zn HO_1.out) (Kd.N_base ho125) hb)
      have n1_ := Aside0.mk (Kd.N_elder' (zn HO_5.out) (Kd.N_base ho125) hb)
      have n2_ := Aside0.mk (Kd.N_elder' (zn HO_7.out) (Kd.N_base ho125) hb)
      have n4_ := Aside0.mk (Kd.N_elder' (zn HO298.out) (Kd.N_base ho125) hb)
      have n5_ := Aside0.mk (Kd.N_elder' (zn HO301.out) (Kd.N_base ho125) hb)
      have n8_ := Aside0.mk (Kd.N_elder' (zn HO316.out) (Kd.N_base ho125) hb)
      have n9_ := Aside0.mk (Kd.N_elder' (zn HO320.out) (Kd.N_base ho125) hb)
      have n10_ := Aside0.mk (Kd.N_elder' (zn HO323.out) (Kd.N_base ho125) hb)
      have n11_ := Aside0.mk (Kd.N_elder' (zn HO330.out) (Kd.N_base ho125) hb)
      have n12_ := Aside0.mk (Kd.N_elder' (zn HO334.out) (Kd.N_base ho125) hb)
      have n13_ := Aside0.mk (Kd.N_lower ho125 (below_size J0))
      have n15_ := Aside0.mk (below_step J0 hb)
      clear HO_1
      clear HO_5
      clear HO_7
      clear HO298
      clear HO301
      clear HO316
      clear HO320
      clear HO323
      clear HO330
      clear HO334
      clear HB
      clear HO338
      have HO_1 := n0_
      have HO_5 := n1_
      have HO_7 := n2_
      have HO298 := n4_
      have HO301 := n5_
      have HO316 := n8_
      have HO320 := n9_
      have HO323 := n10_
      have HO330 := n11_
      have HO334 := n12_
      have HO341 := n13_
      have HB := n15_
      clear n0_ n1_ n2_ n4_ n5_ n8_ n9_ n10_ n11_ n12_ n13_ n15_
      clear hb ho125
      obtain ⟨Ao126, co126, eo126⟩ := Kd.N_slice HO341.out
      (first | subst eo126 | (injection eo126 with f1_ f2_ f3_; have f4_ := f1_.symm; have f5_ := f3_.symm; clear f1_ f2_ f3_; subst f4_; subst f5_))
      refine hK.out _ _ (HS0_) (fun hHeld => ?_)
      clear hK K
      refine norm_ (a' := ?_) ?_ ?_
      rotate_left
      · show Act.put _ (some 133) _ = _
        simp only [Act.put, List.setIfInBounds_toArray, List.set_cons_zero, List.set_cons_succ, i64_w, i32_w]
        rfl
      refine one_ (i := 96) (N := some 134) tb0_9 rfl rfl (one_of HT_.out J8) J17 (fun K hK => ?_)
      refine goes_ Try.func14 J8 rfl #[.slice Ao126 y339.length co126] J38 rfl rfl J1 ?_
      with_reducible refine (array_Right.calls kj7 _ _ y339 false _ ?side1 ?side2 A79.out).mono ?_
      (case side1 => repeat (first | exact (Kd.N_reads' HO341.out).2.2 | (with_reducible refine Kd.C_alloc ?_ _) | (with_reducible refine Kd.C_drewN ?_ _) | (with_reducible refine Kd.C_drew ?_)))
      (case side2 => exact (Kd.N_reads' HO341.out).2.1)
      rintro e w127 ⟨rfl, hb⟩
      have HS0_ := (hb.cell (World.block_lt_of_cell? _ _ (hHeld))).trans (hHeld)
      refine ⟨_, rfl, ?_⟩
      have n0_ := Aside0.mk (Kd.N_below (zn HO_1.out) hb)
      have n1_ := Aside0.mk (Kd.N_below (zn HO_5.out) hb)
      have n2_ := Aside0.mk (Kd.N_below (zn HO_7.out) hb)
      have n4_ := Aside0.mk (Kd.N_below (zn HO298.out) hb)
      have n5_ := Aside0.mk (Kd.N_below (zn HO301.out) hb)
      have n8_ := Aside0.mk (Kd.N_below (zn HO316.out) hb)
      have n9_ := Aside0.mk (Kd.N_below (zn HO320.out) hb)
      have n10_ := Aside0.mk (Kd.N_below (zn HO323.out) hb)
      have n11_ := Aside0.mk (Kd.N_below (zn HO330.out) hb)
      have n12_ := Aside0.mk (Kd.N_below (zn HO334.out) hb)
      have n13_ := Aside0.mk (Kd.N_below (zn HO341.out) hb)
      have n15_ := Aside0.mk (below_step J0 hb)
      clear HO_1
      clear HO_5
      clear HO_7
      clear HO298
      clear HO301
      clear HO316
      clear HO320
      clear HO323
      clear HO330
      clear HO334
      clear HO341
      clear HB
      have HO_1 := n0_
      have HO_5 := n1_
      have HO_7 := n2_
      have HO298 := n4_
      have HO301 := n5_
      have HO316 := n8_
      have HO320 := n9_
      have HO323 := n10_
      have HO330 := n11_
      have HO334 := n12_
      have HO341 := n13_
      have HB := n15_
      clear n0_ n1_ n2_ n4_ n5_ n8_ n9_ n10_ n11_ n12_ n13_ n15_
      (try clear hb)
      (try clear hb2)
      (try clear hk)
      (try clear hi)
      refine hK.out _ _ (HS0_) (fun hHeld => ?_)
      clear hK K
      refine norm_ (a' := ?_) ?_ ?_
      rotate_left
      · show Act.put _ (some 134) _ = _
        simp only [Act.put, List.setIfInBounds_toArray, List.set_cons_zero, List.set_cons_succ, i64_w, i32_w]
        rfl
      refine pure_ (i := 97) (N := some 135) (v := ?_) (a' := ?_) tb0_8 rfl rfl (any_of HT_.out J8) (fun _ _ _ h => h) (Or.inl ⟨J38, ?_⟩) ?_ ?_
      rotate_left
      · intro w'
        go_simp
        with_reducible rfl
      rotate_left
      · simp only [Act.put, List.setIfInBounds_toArray, List.set_cons_zero, List.set_cons_succ, i64_w, i32_w]
        rfl
      refine pure_ (i := 98) (N := some 136) (v := ?_) (a' := ?_) tb0_7 rfl rfl (any_of HT_.out J8) (fun _ _ _ h => h) (Or.inl ⟨J38, ?_⟩) ?_ ?_
      rotate_left
      · intro w'
        go_simp
        with_reducible rfl
      rotate_left
      · simp only [Act.put, List.setIfInBounds_toArray, List.set_cons_zero, List.set_cons_succ, i64_w, i32_w]
        rfl
      refine pure_ (i := 99) (N := some 137) (v := ?_) (a' := ?_) tb0_6 rfl rfl (any_of HT_.out J8) (fun _ _ _ h => h) (Or.inl ⟨J38, ?_⟩) ?_ ?_
      rotate_left
      · intro w'
        go_simp
        with_reducible rfl
      rotate_left
      · simp only [Act.put, List.setIfInBounds_toArray, List.set_cons_zero, List.set_cons_succ, i64_w, i32_w]
        rfl
      refine one_ (i := 100) (N := some 138) tb0_5 rfl rfl (one_of HT_.out J8) J17 (fun K hK => ?_)
      refine Kd.R_lit_step (Kd.int .i64) _ 3 ?hg (N := 138) ?hd (xs := ([0, 3] : List Int)) (inner := [.int .i64 0, .int .i64 3]) (ok := fun _ => True) (okp := fun _ => True) ?hr ?hp (fun _ hk => hk) trivial (Below.refl _ _) (Nat.le_refl _) J21 ?_; (case hd => rfl); (case hg => rfl); (case hr => first | (go_simp; done) | (go_simp; rfl)); (case hp => exact (Reps.one (show Kd.M (Kd.int .i64) _ _ _ 0 [.int .i64 0] from rfl) (Reps.one (show Kd.M (Kd.int .i64) _ _ _ 3 [.int .i64 3] from rfl) (Reps.none _ _))))
      intro v344 w128 ho129 hb hg_ hnew_
      have HS0_ := (hb.cell (World.block_lt_of_cell? _ _ (hHeld))).trans (hHeld)
      clear hg_ hnew_
      (first | rw [← Ny343.out] at ho129 | (simp only [Int.reduceToNat] at ho129; rw [← Ny343.out] at ho129))
      have n0_ := Aside0.mk (Kd.N_elder' (zn HO_1.out) (Kd.R_base ho129) hb)
      have n1_ := Aside0.mk (Kd.N_elder' (zn HO_5.out) (Kd.R_base ho129) hb)
      have n2_ := Aside0.mk (Kd.N_elder' (zn HO_7.out) (Kd.R_base ho129) hb)
      have n4_ := Aside0.mk (Kd.N_elder' (zn HO298.out) (Kd.R_base ho129) hb)
      have n5_ := Aside0.mk (Kd.N_elder' (zn HO301.out) (Kd.R_base ho129) hb)
      have n8_ := Aside0.mk (Kd.N_elder' (zn HO316.out) (Kd.R_base ho129) hb)
      have n9_ := Aside0.mk (Kd.N_elder' (zn HO320.out) (Kd.R_base ho129) hb)
      have n10_ := Aside0.mk (Kd.N_elder' (zn HO323.out) (Kd.R_base ho129) hb)
      have n11_ := Aside0.mk (Kd.N_elder' (zn HO330.out) (Kd.R_base ho129) hb)
      have n12_ := Aside0.mk (Kd.N_elder' (zn HO334.out) (Kd.R_base ho129) hb)
      have n13_ := Aside0.mk (Kd.N_elder' (zn HO341.out) (Kd.R_base ho129) hb)
      have n14_ := Aside0.mk (Kd.R_lower ho129 (below_size J0))
      have n16_ := Aside0.mk (below_step J0 hb)
      clear HO_1
      clear HO_5
      clear HO_7
      clear HO298
      clear HO301
      clear HO316
      clear HO320
      clear HO323
      clear HO330
      clear HO334
      clear HO341
      clear HB
      have HO_1 := n0_
      have HO_5 := n1_
      have HO_7 := n2_
      have HO298 := n4_
      have HO301 := n5_
      have HO316 := n8_
      have HO320 := n9_
      have HO323 := n10_
      have HO330 := n11_
      have HO334 := n12_
      have HO341 := n13_
      have HO345 := n14_
      have HB := n16_
      clear n0_ n1_ n2_ n4_ n5_ n8_ n9_ n10_ n11_ n12_ n13_ n14_ n16_
      clear hb ho129
      obtain ⟨Ao130, co130, eo130⟩ := Kd.R_slice HO345.out
      (first | subst eo130 | (injection eo130 with f1_ f2_ f3_; have f4_ := f1_.symm; have f5_ := f3_.symm; clear f1_ f2_ f3_; subst f4_; subst f5_))
      refine hK.out _ _ (HS0_) (fun hHeld => ?_)
      clear hK K
      refine norm_ (a' := ?_) ?_ ?_
      rotate_left
      · show Act.put _ (some 138) _ = _
        simp only [Act.put, List.setIfInBounds_toArray, List.set_cons_zero, List.set_cons_succ, i64_w, i32_w]
        rfl
      refine pure_ (i := 101) (N := some 139) (v := ?_) (a' := ?_) tb0_4 rfl rfl (any_of HT_.out J8) (fun _ _ _ h => h) (Or.inl ⟨J38, ?_⟩) ?_ ?_
      rotate_left
      · intro w'
        go_simp
        with_reducible rfl
      rotate_left
      · simp only [Act.put, List.setIfInBounds_toArray, List.set_cons_zero, List.set_cons_succ, i64_w, i32_w]
        rfl
      refine one_ (i := 102) (N := some 140) tb0_3 rfl rfl (one_of HT_.out J8) J17 (fun K hK => ?_)
      refine Kd.N_lit_step k32 _ 32 ?hg (N' := 140) ?hd (xs := ([(⟨3, y343, ([] : List Int), ([] : List (S41))⟩ : S32)] : List (S32))) (inner := [.int .i64 3, .slice Ao130 y343.length co130, .slice none 0 0, .slice none 0 0]) (ok := (fun k_ => some k_ ≠ (.slice Ao33 t257.length co33 : Value).ownBlock ∧ some k_ ≠ (.slice Ao83 t277.length co83 : Value).ownBlock ∧ some k_ ≠ (.slice (some ad313) t281.length co101 : Value).ownBlock ∧ some k_ ≠ (.slice Ao92 t296.length co92 : Value).ownBlock ∧ some k_ ≠ (.slice Ao93 y299.length co93 : Value).ownBlock ∧ some k_ ≠ (.slice Ao103 t314.length co103 : Value).ownBlock ∧ some k_ ≠ (.slice Ao107 t318.length co107 : Value).ownBlock ∧ some k_ ≠ (.slice Ao108 t321.length co108 : Value).ownBlock ∧ some k_ ≠ (.slice Ao115 y328.length co115 : Value).ownBlock ∧ some k_ ≠ (.slice Ao119 y332.length co119 : Value).ownBlock ∧ some k_ ≠ (.slice Ao126 y339.length co126 : Value).ownBlock)) (okp := (fun k_ => some k_ ≠ (.slice Ao33 t257.length co33 : Value).ownBlock ∧ some k_ ≠ (.slice Ao83 t277.length co83 : Value).ownBlock ∧ some k_ ≠ (.slice (some ad313) t281.length co101 : Value).ownBlock ∧ some k_ ≠ (.slice Ao92 t296.length co92 : Value).ownBlock ∧ some k_ ≠ (.slice Ao93 y299.length co93 : Value).ownBlock ∧ some k_ ≠ (.slice Ao103 t314.length co103 : Value).ownBlock ∧ some k_ ≠ (.slice Ao107 t318.length co107 : Value).ownBlock ∧ some k_ ≠ (.slice Ao108 t321.length co108 : Value).ownBlock ∧ some k_ ≠ (.slice Ao115 y328.length co115 : Value).ownBlock ∧ some k_ ≠ (.slice Ao119 y332.length co119 : Value).ownBlock ∧ some k_ ≠ (.slice Ao126 y339.length co126 : Value).ownBlock)) ?hr ?hp (fun _ hk => hk) ((show ∀ k_, w128.heap.size ≤ k_ → (fun k_ => some k_ ≠ (.slice Ao33 t257.length co33 : Value).ownBlock ∧ some k_ ≠ (.slice Ao83 t277.length co83 : Value).ownBlock ∧ some k_ ≠ (.slice (some ad313) t281.length co101 : Value).ownBlock ∧ some k_ ≠ (.slice Ao92 t296.length co92 : Value).ownBlock ∧ some k_ ≠ (.slice Ao93 y299.length co93 : Value).ownBlock ∧ some k_ ≠ (.slice Ao103 t314.length co103 : Value).ownBlock ∧ some k_ ≠ (.slice Ao107 t318.length co107 : Value).ownBlock ∧ some k_ ≠ (.slice Ao108 t321.length co108 : Value).ownBlock ∧ some k_ ≠ (.slice Ao115 y328.length co115 : Value).ownBlock ∧ some k_ ≠ (.slice Ao119 y332.length co119 : Value).ownBlock ∧ some k_ ≠ (.slice Ao126 y339.length co126 : Value).ownBlock) k_ from fun k_ hk => ⟨Kd.fresh' (Kd.N_lt (zn HO_1.out)) k_ hk, Kd.fresh' (Kd.N_lt (zn HO_5.out)) k_ hk, Kd.fresh' (Kd.N_lt (zn HO_7.out)) k_ hk, Kd.fresh' (Kd.N_lt (zn HO298.out)) k_ hk, Kd.fresh' (Kd.N_lt (zn HO301.out)) k_ hk, Kd.fresh' (Kd.N_lt (zn HO316.out)) k_ hk, Kd.fresh' (Kd.N_lt (zn HO320.out)) k_ hk, Kd.fresh' (Kd.N_lt (zn HO323.out)) k_ hk, Kd.fresh' (Kd.N_lt (zn HO330.out)) k_ hk, Kd.fresh' (Kd.N_lt (zn HO334.out)) k_ hk, Kd.fresh' (Kd.N_lt (zn HO341.out)) k_ hk⟩) _ (Nat.le_refl _)) (Below.refl _ _) (Nat.le_refl _) J21 ?_; (case hd => rfl); (case hg => rfl); (case hr => first | (go_simp; done) | (go_simp; rfl)); (case hp => exact (Reps.c4 (show Kd.FK k32 _ _ (⟨3, y343, ([] : List Int), ([] : List (S41))⟩ : S32) [.int .i64 3, .slice Ao130 y343.length co130, .slice none 0 0, .slice none 0 0] from (k32_mkF _ _ (⟨3, y343, ([] : List Int), ([] : List (S41))⟩ : S32) (Kd.R_reads' (Kd.R_mono (ok' := (fun k_ => some k_ ≠ (.slice Ao33 t257.length co33 : Value).ownBlock ∧ some k_ ≠ (.slice Ao83 t277.length co83 : Value).ownBlock ∧ some k_ ≠ (.slice (some ad313) t281.length co101 : Value).ownBlock ∧ some k_ ≠ (.slice Ao92 t296.length co92 : Value).ownBlock ∧ some k_ ≠ (.slice Ao93 y299.length co93 : Value).ownBlock ∧ some k_ ≠ (.slice Ao103 t314.length co103 : Value).ownBlock ∧ some k_ ≠ (.slice Ao107 t318.length co107 : Value).ownBlock ∧ some k_ ≠ (.slice Ao108 t321.length co108 : Value).ownBlock ∧ some k_ ≠ (.slice Ao115 y328.length co115 : Value).ownBlock ∧ some k_ ≠ (.slice Ao119 y332.length co119 : Value).ownBlock ∧ some k_ ≠ (.slice Ao126 y339.length co126 : Value).ownBlock)) (Kd.R_apart' (Kd.R_apart' (Kd.R_apart' (Kd.R_apart' (Kd.R_apart' (Kd.R_apart' (Kd.R_apart' (Kd.R_apart' (Kd.R_apart' (Kd.R_apart' (Kd.R_apart' (HO345.out) (Kd.N_typed HO_1.out) J17) (Kd.N_typed HO_5.out) J17) (Kd.N_typed HO_7.out) J17) (Kd.N_typed HO298.out) J17) (Kd.N_typed HO301.out) J17) (Kd.N_typed HO316.out) J17) (Kd.N_typed HO320.out) J17) (Kd.N_typed HO323.out) J17) (Kd.N_typed HO330.out) J17) (Kd.N_typed HO334.out) J17) (Kd.N_typed HO341.out) J17) (fun k_ hk => ⟨hk.1.1.1.1.1.1.1.1.1.1.2, ⟨hk.1.1.1.1.1.1.1.1.1.2, ⟨hk.1.1.1.1.1.1.1.1.2, ⟨hk.1.1.1.1.1.1.1.2, ⟨hk.1.1.1.1.1.1.2, ⟨hk.1.1.1.1.1.2, ⟨hk.1.1.1.1.2, ⟨hk.1.1.1.2, ⟨hk.1.1.2, ⟨hk.1.2, hk.2⟩⟩⟩⟩⟩⟩⟩⟩⟩⟩))).2.1 (Kd.R_F (Kd.R_mono (ok' := (fun k_ => some k_ ≠ (.slice Ao33 t257.length co33 : Value).ownBlock ∧ some k_ ≠ (.slice Ao83 t277.length co83 : Value).ownBlock ∧ some k_ ≠ (.slice (some ad313) t281.length co101 : Value).ownBlock ∧ some k_ ≠ (.slice Ao92 t296.length co92 : Value).ownBlock ∧ some k_ ≠ (.slice Ao93 y299.length co93 : Value).ownBlock ∧ some k_ ≠ (.slice Ao103 t314.length co103 : Value).ownBlock ∧ some k_ ≠ (.slice Ao107 t318.length co107 : Value).ownBlock ∧ some k_ ≠ (.slice Ao108 t321.length co108 : Value).ownBlock ∧ some k_ ≠ (.slice Ao115 y328.length co115 : Value).ownBlock ∧ some k_ ≠ (.slice Ao119 y332.length co119 : Value).ownBlock ∧ some k_ ≠ (.slice Ao126 y339.length co126 : Value).ownBlock)) (Kd.R_apart' (Kd.R_apart' (Kd.R_apart' (Kd.R_apart' (Kd.R_apart' (Kd.R_apart' (Kd.R_apart' (Kd.R_apart' (Kd.R_apart' (Kd.R_apart' (Kd.R_apart' (HO345.out) (Kd.N_typed HO_1.out) J17) (Kd.N_typed HO_5.out) J17) (Kd.N_typed HO_7.out) J17) (Kd.N_typed HO298.out) J17) (Kd.N_typed HO301.out) J17) (Kd.N_typed HO316.out) J17) (Kd.N_typed HO320.out) J17) (Kd.N_typed HO323.out) J17) (Kd.N_typed HO330.out) J17) (Kd.N_typed HO334.out) J17) (Kd.N_typed HO341.out) J17) (fun k_ hk => ⟨hk.1.1.1.1.1.1.1.1.1.1.2, ⟨hk.1.1.1.1.1.1.1.1.1.2, ⟨hk.1.1.1.1.1.1.1.1.2, ⟨hk.1.1.1.1.1.1.1.2, ⟨hk.1.1.1.1.1.1.2, ⟨hk.1.1.1.1.1.2, ⟨hk.1.1.1.1.2, ⟨hk.1.1.1.2, ⟨hk.1.1.2, ⟨hk.1.2, hk.2⟩⟩⟩⟩⟩⟩⟩⟩⟩⟩))) (Nat.le_refl _) (Kd.F_nil _ _ _) (Nat.le_refl _) (Kd.F_nil _ _ _))) (Reps.none _ _)))
      intro v347 w131 ho132 hb hg_ hnew_
      have HS0_ := (hb.cell (World.block_lt_of_cell? _ _ (hHeld))).trans (hHeld)
      clear hg_ hnew_
      (first | rw [← Ny346.out] at ho132 | (simp only [Int.reduceToNat] at ho132; rw [← Ny346.out] at ho132))
      have n14_ := Aside0.mk (Kd.N_lower ho132 (below_size J0))
      have n16_ := Aside0.mk (below_step J0 hb)
      clear HB
      clear HO345
      have HO348 := n14_
      have HB := n16_
      clear n14_ n16_
      clear hb ho132
      obtain ⟨Ao133, co133, eo133⟩ := Kd.N_slice HO348.out
      (first | subst eo133 | (injection eo133 with f1_ f2_ f3_; have f4_ := f1_.symm; have f5_ := f3_.symm; clear f1_ f2_ f3_; subst f4_; subst f5_))
      refine hK.out _ _ (HS0_) (fun hHeld => ?_)
      clear hK K
      refine norm_ (a' := ?_) ?_ ?_
      rotate_left
      · show Act.put _ (some 140) _ = _
        simp only [Act.put, List.setIfInBounds_toArray, List.set_cons_zero, List.set_cons_succ, i64_w, i32_w]
        rfl
      refine one_ (i := 103) (N := some 141) tb0_2 rfl rfl (one_of HT_.out J8) J17 (fun K hK => ?_)
      refine goes_ Try.func14 J8 rfl #[.slice Ao133 y346.length co133] J38 rfl rfl J1 ?_
      with_reducible refine (array_Right.calls kj7 _ _ y346 t349 _ ?side1 ?side2 A81.out).mono ?_
      (case side1 => repeat (first | exact (Kd.N_reads' HO348.out).2.2 | (with_reducible refine Kd.C_alloc ?_ _) | (with_reducible refine Kd.C_drewN ?_ _) | (with_reducible refine Kd.C_drew ?_)))
      (case side2 => exact (Kd.N_reads' HO348.out).2.1)
      rintro e w134 ⟨rfl, hb⟩
      have HS0_ := (hb.cell (World.block_lt_of_cell? _ _ (hHeld))).trans (hHeld)
      refine ⟨_, rfl, ?_⟩
      have n16_ := Aside0.mk (below_step J0 hb)
      clear HB
      have HB := n16_
      clear n16_
      (try clear hb)
      (try clear hb2)
      (try clear hk)
      (try clear hi)
      refine hK.out _ _ (HS0_) (fun hHeld => ?_)
      clear hK K
      refine norm_ (a' := ?_) ?_ ?_
      rotate_left
      · show Act.put _ (some 141) _ = _
        simp only [Act.put, List.setIfInBounds_toArray, List.set_cons_zero, List.set_cons_succ, i64_w, i32_w]
        rfl
      refine pure_ (i := 104) (N := some 142) (v := ?_) (a' := ?_) tb0_1 rfl rfl (any_of HT_.out J8) (fun _ _ _ h => h) (Or.inl ⟨J38, ?_⟩) ?_ ?_
      rotate_left
      · intro w'
        go_simp
        with_reducible rfl
      rotate_left
      · simp only [Act.put, List.setIfInBounds_toArray, List.set_cons_zero, List.set_cons_succ, i64_w, i32_w]
        rfl
      refine pure_ (i := 105) (N := some 0) (v := ?_) (a' := ?_) tb0_0 rfl rfl (any_of HT_.out J8) (fun _ _ _ h => h) (Or.inl ⟨J38, ?_⟩) ?_ ?_
      rotate_left
      · intro w'
        go_simp
        with_reducible rfl
      rotate_left
      · simp only [Act.put, List.setIfInBounds_toArray, List.set_cons_zero, List.set_cons_succ, i64_w, i32_w]
        rfl
      refine done_ (done_of HT_.out J8) ?_
      try go_wp2
      go_ret
      exact ⟨J4, J0⟩
end Go.Proofs.Ytgbmbcippldhnaa.HArraySame
