/- What is unpacked is packed just so, and only by a number of bits of the last byte, for any bytes and number.
Conditions: none beyond the statement's own: every input that can be read. -/
import Derived.Test.YtekfapemlafaeaaHBitsOncex
namespace Go.Proofs.Ytekfapemlafaeaa.Pure
open Go.RowKit Go.Proofs.Ytekfapemlafaeaa.HBitsOnce Go.Proofs.YtekfapemlafaeaaW.PrintWords Go.Proofs.YtekfapemlafaeaaW.PrintLast
set_option linter.unusedVariables false

/-! plain facts on bits -/
theorem w64 {n : Int} (h1 : -9223372036854775808 ≤ n) (h2 : n ≤ 9223372036854775807) : wrap64 n = n := by unfold wrap64; omega

/-- how many bytes bits need -/
def nb (n : Int) : Int := if n < 1 then 0 else (n - 1) / 8 + 1

theorem bytes_eq {n : Int} (h1 : -9223372036854775808 ≤ n) (h2 : n ≤ 9223372036854775807) : bits_Bytes.f n = some (nb n) := by
  unfold bits_Bytes.f nb
  split
  · rfl
  · rw [w64 (n := n - 1) (by omega) (by omega), Int.tdiv_eq_ediv_of_nonneg (by omega), w64 (n := (n - 1) / 8) (by omega) (by omega), w64 (by omega) (by omega)]

theorem nb_range (n : Int) : 0 ≤ nb n ∧ (1 ≤ n → 8 * nb n - 8 < n ∧ n ≤ 8 * nb n) ∧ (n < 1 → nb n = 0) := by
  unfold nb; split <;> omega

def b8 (g : Nat → Bool) : Nat := (g 0).toNat + 2 * (g 1).toNat + 4 * (g 2).toNat + 8 * (g 3).toNat + 16 * (g 4).toNat + 32 * (g 5).toNat + 64 * (g 6).toNat + 128 * (g 7).toNat
def lowb (t : Nat) (g : Nat → Bool) : Nat → Bool := fun s => decide (s < t) && g s
theorem b8_lt (g : Nat → Bool) : b8 g < 256 := by
  have h : ∀ i, (g i).toNat ≤ 1 := fun i => Bool.toNat_le _
  have h0 := h 0; have h1 := h 1; have h2 := h 2; have h3 := h 3; have h4 := h 4; have h5 := h 5; have h6 := h 6; have h7 := h 7
  unfold b8; omega
theorem b8_congr {f g : Nat → Bool} (h : ∀ s, s < 8 → f s = g s) : b8 f = b8 g := by
  unfold b8
  rw [h 0 (by omega), h 1 (by omega), h 2 (by omega), h 3 (by omega), h 4 (by omega), h 5 (by omega), h 6 (by omega), h 7 (by omega)]
theorem lt8 {P : Nat → Prop} (h0 : P 0) (h1 : P 1) (h2 : P 2) (h3 : P 3) (h4 : P 4) (h5 : P 5) (h6 : P 6) (h7 : P 7) (t : Nat) (ht : t < 8) : P t := by
  match t, ht with
  | 0, _ => exact h0
  | 1, _ => exact h1
  | 2, _ => exact h2
  | 3, _ => exact h3
  | 4, _ => exact h4
  | 5, _ => exact h5
  | 6, _ => exact h6
  | 7, _ => exact h7
theorem b8_low_lt (g : Nat → Bool) (t : Nat) (ht : t < 8) : b8 (lowb t g) < 2 ^ t := by
  have h : ∀ i, (g i).toNat ≤ 1 := fun i => Bool.toNat_le _
  have h0 := h 0; have h1 := h 1; have h2 := h 2; have h3 := h 3; have h4 := h 4; have h5 := h 5; have h6 := h 6; have h7 := h 7
  refine lt8 (P := fun t => b8 (lowb t g) < 2 ^ t) ?_ ?_ ?_ ?_ ?_ ?_ ?_ ?_ t ht <;> simp [b8, lowb] <;> omega
theorem b8_low_succ (g : Nat → Bool) (t : Nat) (ht : t < 8) : b8 (lowb (t + 1) g) = b8 (lowb t g) + 2 ^ t * (g t).toNat := by
  refine lt8 (P := fun t => b8 (lowb (t + 1) g) = b8 (lowb t g) + 2 ^ t * (g t).toNat) ?_ ?_ ?_ ?_ ?_ ?_ ?_ ?_ t ht <;> simp [b8, lowb] <;> omega
theorem b8_bit (g : Nat → Bool) (t : Nat) (ht : t < 8) : b8 g / 2 ^ t % 2 = (g t).toNat := by
  have h : ∀ i, (g i).toNat ≤ 1 := fun i => Bool.toNat_le _
  have h0 := h 0; have h1 := h 1; have h2 := h 2; have h3 := h 3; have h4 := h 4; have h5 := h 5; have h6 := h 6; have h7 := h 7
  refine lt8 (P := fun t => b8 g / 2 ^ t % 2 = (g t).toNat) ?_ ?_ ?_ ?_ ?_ ?_ ?_ ?_ t ht <;> simp only [b8] <;> omega
theorem b8_shift (g : Nat → Bool) (t : Nat) (ht : t < 8) (h : ∀ s, t ≤ s → s < 8 → g s = false) : b8 g / 2 ^ t = 0 := by
  have e : b8 g = b8 (lowb t g) := b8_congr fun s hs => by
    unfold lowb
    by_cases c : s < t
    · simp [c]
    · rw [h s (by omega) hs]; simp
  rw [e]; exact Nat.div_eq_of_lt (b8_low_lt g t ht)

theorem mapR_set (N j : Nat) (F F' : Nat → Int) (v : Int) (hv : F' j = v) (ho : ∀ i, i ≠ j → F' i = F i) : ((List.range N).map F).set j v = (List.range N).map F' := by
  apply List.ext_getElem
  · simp
  · intro i h1 h2
    simp only [List.getElem_set, List.getElem_map, List.getElem_range]
    split
    · rename_i e; subst e; exact hv.symm
    · rename_i e; rw [ho i (fun h => e h.symm)]
theorem rd_mapR (N : Nat) (F : Nat → Int) (i : Int) (h0 : 0 ≤ i) (h : i < N) : rd ((List.range N).map F) i = F i.toNat := by
  unfold rd
  rw [List.getD_eq_getElem?_getD, List.getElem?_map, List.getElem?_range (by omega)]
  rfl
theorem mapR_congr (N : Nat) (F F' : Nat → Int) (h : ∀ i, i < N → F i = F' i) : (List.range N).map F = (List.range N).map F' :=
  List.map_congr_left fun i hi => h i (List.mem_range.1 hi)

/-- byte j of the numbers' bits, those below place m -/
def pk (l : List Int) (m : Nat) (j : Nat) : Int := (b8 (fun s => decide (8 * j + s < m) && decide (rd l ((8 * j + s : Nat) : Int) ≠ 0)) : Nat)
theorem pk_range (l : List Int) (m j : Nat) : 0 ≤ pk l m j ∧ pk l m j < 256 := by
  unfold pk
  have := b8_lt (fun s => decide (8 * j + s < m) && decide (rd l ((8 * j + s : Nat) : Int) ≠ 0))
  omega
theorem pk_skip (l : List Int) (m : Nat) (h : rd l (m : Int) = 0) : pk l (m + 1) = pk l m := by
  funext j
  unfold pk
  congr 1
  refine b8_congr fun s _ => ?_
  by_cases e : 8 * j + s = m
  · rw [e, h]; simp
  · rw [show decide (8 * j + s < m + 1) = decide (8 * j + s < m) from decide_eq_decide.2 (by omega)]
theorem pk_far (l : List Int) (m j : Nat) (h : j ≠ m / 8) : pk l (m + 1) j = pk l m j := by
  unfold pk
  congr 1
  refine b8_congr fun s _ => ?_
  rw [show decide (8 * j + s < m + 1) = decide (8 * j + s < m) from decide_eq_decide.2 (by omega)]
theorem pk_low (l : List Int) (m : Nat) (t : Nat) (j : Nat) (e : m = 8 * j + t) : pk l m j = (b8 (lowb t (fun s => decide (rd l ((8 * j + s : Nat) : Int) ≠ 0))) : Nat) := by
  unfold pk
  congr 1
  refine b8_congr fun s _ => ?_
  unfold lowb
  rw [show decide (8 * j + s < m) = decide (s < t) from decide_eq_decide.2 (by omega)]
theorem pk_hit (l : List Int) (m : Nat) (h : rd l (m : Int) ≠ 0) : pk l (m + 1) (m / 8) = pk l m (m / 8) + 2 ^ (m % 8) ∧ pk l m (m / 8) < 2 ^ (m % 8) := by
  have e : m = 8 * (m / 8) + m % 8 := by omega
  rw [pk_low l (m + 1) (m % 8 + 1) (m / 8) (by omega), pk_low l m (m % 8) (m / 8) e, b8_low_succ _ _ (Nat.mod_lt _ (by omega))]
  have b : (decide (rd l ((8 * (m / 8) + m % 8 : Nat) : Int) ≠ 0)) = true := by rw [← e]; simpa using h
  have u := b8_low_lt (fun s => decide (rd l ((8 * (m / 8) + s : Nat) : Int) ≠ 0)) (m % 8) (Nat.mod_lt _ (by omega))
  rw [b]
  refine ⟨by simp, ?_⟩
  exact_mod_cast u
theorem shl_u8 (t : Nat) (ht : t < 8) : shl .u8 1 (t : Int) = 2 ^ t := by
  refine lt8 (P := fun t => shl .u8 1 (t : Int) = 2 ^ t) ?_ ?_ ?_ ?_ ?_ ?_ ?_ ?_ t ht <;> decide
theorem pow_u8 (t : Nat) (ht : t < 8) : (2 : Nat) ^ t < 256 := by
  refine lt8 (P := fun t => (2 : Nat) ^ t < 256) ?_ ?_ ?_ ?_ ?_ ?_ ?_ ?_ t ht <;> decide
theorem or_u8 (x : Int) (t : Nat) (ht : t < 8) (h0 : 0 ≤ x) (h : x < 2 ^ t) : Go.bits .or .u8 x (2 ^ t) = x + 2 ^ t := by
  obtain ⟨n, rfl⟩ := Int.eq_ofNat_of_zero_le h0
  have hn : n < 2 ^ t := by exact_mod_cast h
  have hp := pow_u8 t ht
  have e := Go.u8_or_nat n (2 ^ t) (by omega) hp
  have e2 : ((2 ^ t : Nat) : Int) = 2 ^ t := by push_cast; rfl
  rw [e2] at e
  rw [e, Nat.or_comm, Go.nat_join t (2 ^ t) n (Nat.mod_self _) hn]
  push_cast; omega

theorem rd_oob (l : List Int) (i : Nat) (h : l.length ≤ i) : rd l (i : Int) = 0 := by
  unfold rd
  rw [List.getD_eq_getElem?_getD, List.getElem?_eq_none (by simpa using h)]; rfl

/-- the bytes of numbers -/
def PK (l : List Int) : List Int := (List.range (nb l.length).toNat).map (pk l l.length)
theorem PK_length (l : List Int) : (PK l).length = (nb l.length).toNat := by simp [PK]

theorem pack_loop (l : List Int) (hl : l.length ≤ 9223372036854775807) (N : Nat) (hN : (N : Int) = nb l.length) (d : Nat) :
    ∀ (k m : Nat), m ≤ l.length → l.length - m = d → d < k → bits_Pack.l0 k ((List.range N).map (pk l m)) l (l.length : Int) (m : Int) = some ((List.range N).map (pk l l.length)) := by
  induction d with
  | zero =>
    intro k m h1 h2 hk
    obtain ⟨k, rfl⟩ : ∃ q, k = q + 1 := ⟨k - 1, by omega⟩
    simp only [bits_Pack.l0]
    rw [if_neg (by omega)]
    have : m = l.length := by omega
    rw [this]
  | succ d ih =>
    intro k m h1 h2 hk
    obtain ⟨k, rfl⟩ : ∃ q, k = q + 1 := ⟨k - 1, by omega⟩
    have hlt : (m : Int) < (l.length : Int) := by omega
    have hr := nb_range l.length
    have hw : wrap64 ((m : Int) + 1) = ((m + 1 : Nat) : Int) := by rw [w64 (by omega) (by omega)]; omega
    have hd : wrap64 (Int.tdiv (m : Int) 8) = ((m / 8 : Nat) : Int) := by rw [Int.tdiv_eq_ediv_of_nonneg (by omega), w64 (by omega) (by omega)]; omega
    have ht : Int.tmod (m : Int) 8 = ((m % 8 : Nat) : Int) := by rw [Int.tmod_eq_emod_of_nonneg (by omega)]; omega
    have hj : m / 8 < N := by omega
    simp only [bits_Pack.l0]
    rw [if_pos hlt, if_pos (by omega), if_pos hlt]
    by_cases hz : rd l (m : Int) = 0
    · rw [if_pos hz, hw, ← pk_skip l m hz]
      exact ih k (m + 1) (by omega) (by omega) (by omega)
    · obtain ⟨hh, hb⟩ := pk_hit l m hz
      rw [if_neg hz, hd, ht, if_pos (by omega), if_pos (by simp; omega), if_pos (by omega), hw, rd_mapR N _ _ (by omega) (by omega), shl_u8 _ (Nat.mod_lt _ (by omega))]
      have e : ((m / 8 : Nat) : Int).toNat = m / 8 := by omega
      rw [e, or_u8 _ _ (Nat.mod_lt _ (by omega)) (pk_range l m _).1 hb, ← hh,
        mapR_set N (m / 8) (pk l m) (pk l (m + 1)) _ rfl (fun i hi => pk_far l m i hi)]
      exact ih k (m + 1) (by omega) (by omega) (by omega)

theorem pk_zero (l : List Int) (N : Nat) : (List.range N).map (pk l 0) = List.replicate N 0 := by
  apply List.ext_getElem
  · simp
  · intro i h1 h2
    simp [pk, b8]

theorem pack_eq (l : List Int) (hl : l.length ≤ 1000000000) (k : Nat) (hk : l.length < k) : bits_Pack.f k l = some (PK l) := by
  have hr := nb_range l.length
  unfold bits_Pack.f
  rw [bytes_eq (by omega) (by omega)]
  simp only [Option.bind_some]
  rw [if_pos hr.1, if_pos (by omega)]
  have h := pack_loop l (by omega) (nb l.length).toNat (by omega) l.length k 0 (by omega) (by omega) hk
  rw [pk_zero] at h
  exact h

/-- bit i of bytes -/
def bitAt (b : List Int) (i : Nat) : Int := rd b ((i / 8 : Nat) : Int) / 2 ^ (i % 8) % 2
def isByte (x : Int) : Prop := 0 ≤ x ∧ x ≤ 255
theorem rd_byte (b : List Int) (hb : ∀ x ∈ b, isByte x) (i : Int) : isByte (rd b i) := by
  unfold rd
  rw [List.getD_eq_getElem?_getD]
  cases h : b[i.toNat]? with
  | none => simp [isByte]
  | some v => exact hb v (List.mem_of_getElem? h)
theorem shr_u8 (x : Int) (t : Nat) (ht : t < 8) : shr .u8 x (t : Int) = x / 2 ^ t := by
  unfold shr
  rw [Int.toNat_natCast, Nat.min_eq_left (by show t ≤ 8; omega)]
theorem bitAt_range (b : List Int) (i : Nat) : bitAt b i = 0 ∨ bitAt b i = 1 := by unfold bitAt; omega
theorem div_byte (x : Int) (t : Nat) (h : isByte x) : isByte (x / 2 ^ t) := by
  obtain ⟨n, rfl⟩ := Int.eq_ofNat_of_zero_le h.1
  have e2 : ((2 ^ t : Nat) : Int) = 2 ^ t := by push_cast; rfl
  rw [← e2, ← Int.natCast_ediv]
  have h1 := Nat.div_le_self n (2 ^ t)
  have h2 := h.2
  have h3 : n / 2 ^ t ≤ 255 := Nat.le_trans h1 (by omega)
  exact ⟨Int.natCast_nonneg _, (Int.ofNat_le.2 h3 : ((n / 2 ^ t : Nat) : Int) ≤ ((255 : Nat) : Int))⟩
theorem and1_u8 (x : Int) (h : isByte x) : Go.bits .and .u8 x 1 = x % 2 := by
  obtain ⟨n, rfl⟩ := Int.eq_ofNat_of_zero_le h.1
  have := h.2
  have e := Go.u8_and_nat n 1 (by omega) (by omega)
  rw [Go.nat_mask1] at e
  rw [show (1 : Int) = ((1 : Nat) : Int) from rfl, e]; omega

theorem unpack_loop (b : List Int) (hb : ∀ x ∈ b, isByte x) (hlb : b.length ≤ 9223372036854775807) (n : Int) (N : Nat) (hN : (N : Int) = n) (hn : n ≤ 9223372036854775807) (hnb : nb n = b.length) (d : Nat) :
    ∀ (k m : Nat), m ≤ N → N - m = d → d < k →
    bits_Unpack.l0 k b n ((List.range N).map (fun i => if i < m then bitAt b i else 0)) (N : Int) (m : Int) =
      if n % 8 > 0 ∧ ¬ (rd b ((b.length : Int) - 1) / 2 ^ (n % 8).toNat = 0) then some ([], false) else some ((List.range N).map (bitAt b), true) := by
  have hr := nb_range n
  induction d with
  | zero =>
    intro k m h1 h2 hk
    have h8 : Int.tmod n 8 = n % 8 := Int.tmod_eq_emod_of_nonneg (by omega)
    obtain ⟨k, rfl⟩ : ∃ q, k = q + 1 := ⟨k - 1, by omega⟩
    simp only [bits_Unpack.l0]
    rw [if_neg (by omega), h8]
    have em : (List.range N).map (fun i => if i < m then bitAt b i else 0) = (List.range N).map (bitAt b) := mapR_congr N _ _ fun i hi => by rw [if_pos (by omega)]
    rw [em]
    by_cases hc : n % 8 > 0
    · have hl0 : 0 < b.length := by omega
      rw [if_pos hc, w64 (by omega) (by omega), if_pos (by omega), if_pos (by omega), if_pos (by omega)]
      have et : n % 8 = (((n % 8).toNat : Nat) : Int) := by omega
      have es : shr .u8 (rd b ((b.length : Int) - 1)) (n % 8) = rd b ((b.length : Int) - 1) / 2 ^ (n % 8).toNat := by
        conv => lhs; rw [et]
        rw [shr_u8 _ _ (by omega)]
      rw [es]
      by_cases hz : rd b ((b.length : Int) - 1) / 2 ^ (n % 8).toNat = 0
      · rw [if_pos hz, if_neg (by intro h; exact h.2 hz)]
      · rw [if_neg hz, if_pos ⟨hc, hz⟩]
    · rw [if_neg hc, if_neg (by intro h; exact hc h.1)]
  | succ d ih =>
    intro k m h1 h2 hk
    obtain ⟨k, rfl⟩ : ∃ q, k = q + 1 := ⟨k - 1, by omega⟩
    have hlt : (m : Int) < (N : Int) := by omega
    have hw : wrap64 ((m : Int) + 1) = ((m + 1 : Nat) : Int) := by rw [w64 (by omega) (by omega)]; omega
    have hd : wrap64 (Int.tdiv (m : Int) 8) = ((m / 8 : Nat) : Int) := by rw [Int.tdiv_eq_ediv_of_nonneg (by omega), w64 (by omega) (by omega)]; omega
    have ht : Int.tmod (m : Int) 8 = ((m % 8 : Nat) : Int) := by rw [Int.tmod_eq_emod_of_nonneg (by omega)]; omega
    obtain ⟨x, hx⟩ : ∃ x, x = (List.range N).map (fun i => if i < m then bitAt b i else 0) := ⟨_, rfl⟩
    have hxl : x.length = N := by rw [hx, List.length_map, List.length_range]
    rw [← hx]
    simp only [bits_Unpack.l0]
    rw [if_pos hlt, hd, ht, if_pos (by omega), if_pos (by omega), if_pos (by omega), if_pos (by omega), if_pos (by omega), hw, shr_u8 _ _ (Nat.mod_lt _ (by omega)),
      and1_u8 _ (div_byte _ _ (rd_byte b hb _))]
    have e1 : wrap64 (rd b ((m / 8 : Nat) : Int) / 2 ^ (m % 8) % 2) = bitAt b m := by
      rw [w64 (by omega) (by omega)]; rfl
    have e : ((m : Nat) : Int).toNat = m := by omega
    have hs : ((List.range N).map (fun i => if i < m then bitAt b i else 0)).set m (bitAt b m) = (List.range N).map (fun i => if i < m + 1 then bitAt b i else 0) :=
      mapR_set N m (fun i => if i < m then bitAt b i else 0) (fun i => if i < m + 1 then bitAt b i else 0) (bitAt b m) (if_pos (by omega)) (fun i hi => by
        by_cases c : i < m
        · rw [if_pos c, if_pos (by omega)]
        · rw [if_neg c, if_neg (by omega)])
    rw [e1, e, hx, hs]
    exact ih k (m + 1) (by omega) (by omega) (by omega)

theorem unpack_eq (b : List Int) (hb : ∀ x ∈ b, isByte x) (hlb : b.length ≤ 140737488351232) (n : Int) (h1 : -9223372036854775808 ≤ n) (h2 : n ≤ 9223372036854775807) (hbig : b.length ≤ 4398046511104) (k : Nat) (hk : n.toNat + 1 < k) :
    bits_Unpack.f k b n = if n < 0 ∨ nb n ≠ b.length then some ([], false) else
      if n % 8 > 0 ∧ ¬ (rd b ((b.length : Int) - 1) / 2 ^ (n % 8).toNat = 0) then some ([], false) else some ((List.range n.toNat).map (bitAt b), true) := by
  have hr := nb_range n
  obtain ⟨k, rfl⟩ : ∃ q, k = q + 1 := ⟨k - 1, by omega⟩
  unfold bits_Unpack.f
  by_cases hneg : n < 0
  · rw [if_pos hneg, if_pos (.inl hneg)]
    simp [bits_Unpack.j0]
  · rw [if_neg hneg, bytes_eq h1 h2]
    simp only [Option.bind_some]
    by_cases he : nb n = b.length
    · rw [if_neg (by intro h; rcases h with h | h <;> contradiction)]
      have hz : (nb n != (b.length : Int)) = false := by simpa using he
      rw [hz]
      simp only [bits_Unpack.j0]
      rw [if_neg (by simp), if_pos (by omega), if_pos (by omega)]
      simp only [Option.bind_some]
      have h := unpack_loop b hb (by omega) n n.toNat (by omega) h2 he n.toNat k 0 (by omega) (by omega) (by omega)
      have e0 : (List.range n.toNat).map (fun i => if i < 0 then bitAt b i else 0) = List.replicate n.toNat 0 := by
        apply List.ext_getElem
        · simp
        · intro i h1 h2; simp
      rw [e0] at h
      simp only [List.length_replicate]
      exact h
    · rw [if_pos (.inr he)]
      have hz : (nb n != (b.length : Int)) = true := by simpa using he
      rw [hz]
      simp [bits_Unpack.j0]

theorem byte_of_wf (b : List Int) (h : ∀ x ∈ b, (Lit.int .u8 x).wf = true) : ∀ x ∈ b, isByte x := fun x hx => by
  have := h x hx
  have e0 : IntKind.u8.min = 0 := by decide
  have e1 : IntKind.u8.max = 255 := by decide
  simp only [Lit.wf, Bool.and_eq_true, decide_eq_true_eq, e0, e1] at this
  exact this
theorem int_of_wf {x : Int} (h : (Lit.int .i64 x).wf = true) : -9223372036854775808 ≤ x ∧ x ≤ 9223372036854775807 := by
  have e0 : IntKind.i64.min = -9223372036854775808 := by decide
  have e1 : IntKind.i64.max = 9223372036854775807 := by decide
  simp only [Lit.wf, Bool.and_eq_true, decide_eq_true_eq, e0, e1] at h
  exact h

theorem small_all (k : Nat) (hk : 20 ≤ k) : decklelaw01_small.f k = some true :=
  at_rounds (g := fun k => decklelaw01_small.f k) (fun k => decklelaw01_small.mono k) hk (by decide +kernel)

theorem byte_bits_aux : ∀ v : Fin 256, b8 (fun s => decide ((v : Nat) / 2 ^ s % 2 ≠ 0)) = v := by decide +kernel
theorem byte_bits (x : Int) (h : isByte x) : x = (b8 (fun s => decide (x / 2 ^ s % 2 ≠ 0)) : Nat) := by
  obtain ⟨n, rfl⟩ := Int.eq_ofNat_of_zero_le h.1
  have h2 := h.2
  have e := byte_bits_aux ⟨n, by omega⟩
  simp only at e
  have e3 : (fun s => decide ((n : Int) / 2 ^ s % 2 ≠ 0)) = fun s => decide (n / 2 ^ s % 2 ≠ 0) := by
    funext s
    have e2 : ((2 ^ s : Nat) : Int) = 2 ^ s := by push_cast; rfl
    rw [← e2, ← Int.natCast_ediv]
    refine decide_eq_decide.2 ?_
    omega
  rw [e3, e]
theorem high_zero (x : Int) (h : isByte x) (t s : Nat) (hts : t ≤ s) (hz : x / 2 ^ t = 0) : x / 2 ^ s = 0 := by
  obtain ⟨n, rfl⟩ := Int.eq_ofNat_of_zero_le h.1
  have e2 : ∀ s : Nat, ((2 ^ s : Nat) : Int) = 2 ^ s := by intro s; push_cast; rfl
  rw [← e2, ← Int.natCast_ediv] at hz ⊢
  have h1 : n / 2 ^ t = 0 := by omega
  have h2 : n < 2 ^ t := by
    rcases (Nat.div_eq_zero_iff).1 h1 with h | h
    · have := Nat.pos_of_ne_zero (n := 2 ^ t) (by have := Nat.two_pow_pos t; omega); omega
    · exact h
  have h3 : 2 ^ t ≤ 2 ^ s := Nat.pow_le_pow_right (by omega) hts
  rw [Nat.div_eq_of_lt (by omega)]; rfl
theorem PK_of (b : List Int) (hb : ∀ x ∈ b, isByte x) (n : Nat) (he : nb n = b.length) (hz : ¬ ((n : Int) % 8 > 0 ∧ ¬ (rd b ((b.length : Int) - 1) / 2 ^ ((n : Int) % 8).toNat = 0))) : PK ((List.range n).map (bitAt b)) = b := by
  have hr := nb_range n
  have hx : ((List.range n).map (bitAt b)).length = n := by simp
  apply List.ext_getElem
  · rw [PK_length, hx]; omega
  · intro j h1 h2
    have hj : rd b (j : Int) = b[j] := by
      unfold rd
      rw [List.getD_eq_getElem?_getD, Int.toNat_natCast, List.getElem?_eq_getElem h2]; rfl
    have hv := rd_byte b hb (j : Int)
    simp only [PK, List.getElem_map, List.getElem_range, hx]
    rw [← hj, byte_bits _ hv]
    unfold pk
    congr 1
    refine b8_congr fun s hs => ?_
    have ht : rd b (j : Int) / 2 ^ s % 2 = bitAt b (8 * j + s) := by
      unfold bitAt
      rw [show (8 * j + s) / 8 = j by omega, show (8 * j + s) % 8 = s by omega]
    rw [ht]
    by_cases c : 8 * j + s < n
    · rw [rd_mapR _ _ _ (by omega) (by omega), Int.toNat_natCast, decide_eq_true c, Bool.true_and]
    · rw [decide_eq_false c, Bool.false_and]
      have hm : (n : Int) % 8 > 0 := by omega
      have hl : rd b ((b.length : Int) - 1) / 2 ^ ((n : Int) % 8).toNat = 0 := Classical.byContradiction fun hc => hz ⟨hm, hc⟩
      have ej : (b.length : Int) - 1 = (j : Int) := by omega
      rw [ej] at hl
      have := high_zero _ hv ((n : Int) % 8).toNat s (by omega) hl
      rw [← ht, this]; rfl
theorem BitsOnce : decklelaw01_BitsOnce.Pure := by
  intro b n h1 h2 h3 h4
  have hb := byte_of_wf b h3
  have hn := int_of_wf h4
  refine ⟨9000, ?_⟩
  unfold decklelaw01_BitsOnce.f
  rw [small_all 9000 (by omega)]
  simp only [Option.bind_some]
  by_cases c : (b.length : Int) > 200
  · rw [if_pos c]
  · rw [if_neg c]
    have hr := nb_range n
    by_cases ha : n < 0 ∨ nb n ≠ b.length
    · have hu : bits_Unpack.f 9000 b n = some ([], false) := by
        by_cases hbig : n.toNat + 1 < 9000
        · rw [unpack_eq b hb (by omega) n hn.1 hn.2 (by omega) 9000 hbig, if_pos ha]
        · unfold bits_Unpack.f
          rw [if_neg (by omega), bytes_eq hn.1 hn.2]
          simp only [Option.bind_some]
          rw [show (nb n != (b.length : Int)) = true from by simp; omega]
          show bits_Unpack.j0 (8999 + 1) _ _ _ = _
          simp [bits_Unpack.j0]
      rw [hu]
      simp
    · obtain ⟨m, rfl⟩ : ∃ m : Nat, n = (m : Int) := ⟨n.toNat, by omega⟩
      have he : nb m = b.length := by omega
      rw [unpack_eq b hb (by omega) m hn.1 hn.2 (by omega) 9000 (by omega), if_neg ha]
      by_cases hz : (m : Int) % 8 > 0 ∧ ¬ (rd b ((b.length : Int) - 1) / 2 ^ ((m : Int) % 8).toNat = 0)
      · rw [if_pos hz]; simp
      · rw [if_neg hz]
        simp only [Option.bind_some, if_true, Int.toNat_natCast]
        have el : ((List.range m).map (bitAt b)).length = m := by simp
        rw [el, if_pos rfl, pack_eq _ (by rw [el]; omega) 9000 (by rw [el]; omega), PK_of b hb m he hz]
        simp only [Option.bind_some, if_true]
        rw [w64 (n := 8 * (b.length : Int)) (by omega) (by omega), if_pos (by omega)]
        by_cases c0 : (b.length : Int) = 0
        · rw [if_pos c0]
        · rw [if_neg c0, w64 (by omega) (by omega)]
          simp; omega

end Go.Proofs.Ytekfapemlafaeaa.Pure
