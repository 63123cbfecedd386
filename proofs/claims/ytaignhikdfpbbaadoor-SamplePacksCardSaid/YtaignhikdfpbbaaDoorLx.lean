/- Plain laws of layer 12: there and back. -/
import Derived.Test.YtaignhikdfpbbaaDoorLw
import Derived.Test.YtaignhikdfpbbaaDoorNk
namespace Go.Rx
theorem exq256 (a b : List Int) (ha : a.length = 256) (hb : b.length = 256) (h : ∀ k, k < 256 → a.getD k 0 = b.getD k 0) : a = b :=
  ext_getD 0 a b (by rw [ha, hb]) fun i hi => h i (by omega)
theorem zero_get (k : Nat) : zero256.getD k 0 = (0 : Int) := by
  simp only [List.getD_eq_getElem?_getD, List.getElem?_replicate]; split <;> rfl
theorem btA_of (b : List UInt8) (o X : Nat) : ∀ n, (∀ j, j < n → bitN b (o + j) = X / 2 ^ j % 2) → btA b o n = X % 2 ^ n
  | 0, _ => by rw [btA, Nat.pow_zero, Nat.mod_one]
  | n + 1, h => by rw [btA, btA_of b o X n (fun j hj => h j (by omega)), h n (by omega), Nat.mod_pow_succ, Nat.mul_comm]
theorem mod_lt_z (d : Nat) (x : Int) : zmod x % 2 ^ d < 3329 := by have := Nat.mod_le (zmod x) (2 ^ d); have := zmod_lt x; omega
theorem un_pa (d : Nat) (hd : 1 ≤ d) (p : List Int) (k : Nat) (hk : k < 256) : (unA d (paA d p 256) 256).getD k 0 = ((zmod (p.getD k 0) % 2 ^ d : Nat) : Int) := by
  have hm := Nat.mul_le_mul_left d (show k + 1 ≤ 256 by omega)
  rw [Nat.mul_succ] at hm
  rw [unA_get _ _ 256 k (by omega) hk, btA_of _ _ (zmod (p.getD k 0)) d, zmod_of_lt (mod_lt_z d _)]
  intro j hj
  have e1 : (d * k + j) / d = k := by rw [Nat.mul_add_div (by omega), Nat.div_eq_of_lt hj, Nat.add_zero]
  have e2 : (d * k + j) % d = j := by rw [Nat.mul_add_mod, Nat.mod_eq_of_lt hj]
  rw [paA_bit d hd p 256 (Nat.le_refl _), if_pos (by omega), e1, e2]
theorem pa_un (d : Nat) (h1 : 1 ≤ d) (h2 : d ≤ 11) (b : List UInt8) (hb : b.length = 32 * d) : paA d (unA d b 256) 256 = b := by
  refine bytes_ext _ _ (by rw [paA_len, hb]) fun k hk => ?_
  rw [paA_len] at hk
  have hq : k / d < 256 := Nat.div_lt_of_lt_mul (by rw [show d * 256 = 8 * (32 * d) by omega]; exact hk)
  have hlt := btA_lt b (d * (k / d)) d
  have hp : 2 ^ d ≤ 2 ^ 11 := Nat.pow_le_pow_right (by omega) h2
  rw [paA_bit d h1 _ 256 (Nat.le_refl _), if_pos (by omega), unA_get _ _ 256 _ (by omega) hq, zmod_zmod, zmod_of_lt (by omega), bt_bit _ _ _ _ (Nat.mod_lt _ (by omega)), Nat.div_add_mod]
theorem un_pa_un (d : Nat) (h1 : 1 ≤ d) (b : List UInt8) : unA d (paA d (unA d b 256) 256) 256 = unA d b 256 := by
  refine exq256 _ _ (unA_len _ _ _) (unA_len _ _ _) fun k hk => ?_
  have hlt := btA_lt b (d * k) d
  have hle : zmod ((btA b (d * k) d : Nat) : Int) ≤ btA b (d * k) d := by rw [zmod_nat]; exact Nat.mod_le _ _
  rw [un_pa d h1 _ k hk, unA_get _ _ 256 _ (by omega) hk, zmod_zmod, Nat.mod_eq_of_lt (by omega)]
def wA (d : Nat) (p : List Int) : Nat → List Int
  | 0 => cl p
  | i + 1 => (wA d p i).set i ((((wA d p i).getD i 0 % (2 ^ d : Nat)).toNat : Nat) : Int)
theorem cl_len (p : List Int) : (cl p).length = p.length := by rw [cl]; exact eaA_len _ _ _ 256
theorem wA_len (d : Nat) (p : List Int) : ∀ i, (wA d p i).length = p.length
  | 0 => by rw [wA]; exact cl_len p
  | i + 1 => by rw [wA, List.length_set]; exact wA_len d p i
theorem cl_get (p : List Int) (hp : p.length = 256) (k : Nat) (hk : k < 256) : (cl p).getD k 0 = ((zmod (p.getD k 0) : Nat) : Int) := by
  rw [cl, eaA_get _ p p hp 256 (Nat.le_refl _) k, if_pos hk]
theorem wA_get (d : Nat) (p : List Int) (hp : p.length = 256) : ∀ i k, i ≤ 256 → k < 256 → (wA d p i).getD k 0 = if k < i then ((zmod (p.getD k 0) % 2 ^ d : Nat) : Int) else ((zmod (p.getD k 0) : Nat) : Int)
  | 0, k, _, hk => by rw [wA, if_neg (by omega)]; exact cl_get p hp k hk
  | i + 1, k, hi, hk => by
    rw [wA, getD_set_eq _ _ _ _ _ (by rw [wA_len, hp]; omega), wA_get d p hp i i (by omega) (by omega), wA_get d p hp i k (by omega) hk, if_neg (Nat.lt_irrefl i)]
    by_cases e : i = k
    · subst e; rw [if_pos rfl, if_pos (by omega), ← Int.natCast_emod, Int.toNat_natCast]
    · rw [if_neg e]; by_cases e2 : k < i
      · rw [if_pos e2, if_pos (by omega)]
      · rw [if_neg e2, if_neg (by omega)]
theorem back_x (d : Nat) (h1 : 1 ≤ d) (p : List Int) (hp : p.length = 256) : unA d (paA d p 256) 256 = wA d p 256 := by
  refine exq256 _ _ (unA_len _ _ _) (by rw [wA_len, hp]) fun k hk => ?_
  rw [un_pa d h1 p k hk, wA_get d p hp 256 k (by omega) hk, if_pos hk]
theorem back_x12 (p : List Int) (hp : p.length = 256) : unA 12 (paA 12 p 256) 256 = cl p := by
  refine exq256 _ _ (unA_len _ _ _) (by rw [cl_len, hp]) fun k hk => ?_
  have := zmod_lt (p.getD k 0)
  rw [un_pa 12 (by omega) p k hk, cl_get p hp k hk, Nat.mod_eq_of_lt (by omega)]
theorem back_s (d : Nat) (h1 : 1 ≤ d) (h2 : d ≤ 11) (p : List Int) (hp : p.length = 256) : sqA (d : Int) (spA (d : Int) (wA d p 256) 256) 256 = wA d p 256 := by
  have hw : (wA d p 256).length = 256 := by rw [wA_len, hp]
  refine exq256 _ _ (by rw [sqA_len, spA_len, hw]) hw fun k hk => ?_
  have hs := spread_eq d ((zmod (p.getD k 0) % 2 ^ d : Nat) : Int) h1 h2
  rw [sqA_get _ _ (by rw [spA_len, hw]) 256 k (by omega), if_pos hk, spA_get _ _ hw 256 k (by omega), if_pos hk, wA_get d p hp 256 k (by omega) hk, if_pos hk]
  rw [zcompZ, if_pos (by omega), zdecZ, if_pos (by omega), Int.toNat_natCast, hs.1, ← Int.natCast_emod, Int.toNat_natCast, Nat.mod_mod]
theorem bits_zero (d : Int) (K : Nat) (c : Int) (i : Nat) (hi : i ≠ K) : (unpP d (pack d (zero256.set K c))).getD i 0 = 0 := by
  unfold unpP
  split
  · rename_i h
    rcases Nat.lt_or_ge i 256 with h3 | h3
    · rw [pack, if_pos (by omega), un_pa d.toNat (by omega) _ i h3]
      have : (zero256.set K c).getD i 0 = (0 : Int) := by
        simp only [List.getD_eq_getElem?_getD, List.getElem?_set]; rw [if_neg (fun e => hi e.symm)]; exact zero_get i
      rw [this]; simp [zmod]
    · rw [List.getD_eq_getElem?_getD, List.getElem?_eq_none (by rw [unA_len]; omega)]; rfl
  · exact zero_get i
/-! ### Small ones are small -/
theorem noA_small (eta : Nat) (b : List UInt8) (he : 1 ≤ eta ∧ eta ≤ 3) (i : Nat) : (0 ≤ (noA eta b 256).getD i 0 ∧ (noA eta b 256).getD i 0 ≤ eta) ∨ (3329 - (eta : Int) ≤ (noA eta b 256).getD i 0 ∧ (noA eta b 256).getD i 0 < 3329) := by
  rcases Nat.lt_or_ge i 256 with h3 | h3
  · have h1 := sumB_le b (2 * i * eta) eta; have h2 := sumB_le b (2 * i * eta + eta) eta
    rw [noA_get _ _ 256 i (by omega) h3, ones_sum b _ _ (by omega), ones_sum b _ _ (by omega), zsub_eq, zmod_of_lt (by omega), zmod_of_lt (by omega)]
    omega
  · rw [List.getD_eq_getElem?_getD, List.getElem?_eq_none (by rw [noA_len]; omega)]; left; simp
def ffA (n : Nat) : Nat → List UInt8
  | 0 => List.replicate n 0
  | i + 1 => (ffA n i).set i 255
theorem ffA_len (n : Nat) : ∀ i, (ffA n i).length = n
  | 0 => List.length_replicate
  | i + 1 => by rw [ffA, List.length_set]; exact ffA_len n i
theorem ffA_get (n : Nat) : ∀ i k, i ≤ n → k < i → (ffA n i).getD k 0 = 255
  | 0, k, _, h => by omega
  | i + 1, k, hi, h => by
    rw [ffA, getD_set_eq _ _ _ _ _ (by rw [ffA_len]; omega)]
    by_cases e : i = k
    · rw [if_pos e]
    · rw [if_neg e]; exact ffA_get n i k (by omega) (by omega)
theorem ff_bit (n k : Nat) (h : k < 8 * n) : bitN (ffA n n) k = 1 := by
  rw [bitN, ffA_get n n _ (Nat.le_refl _) (by omega)]
  have h8 : k % 8 < 8 := Nat.mod_lt _ (by omega)
  generalize k % 8 = j at *
  rcases (show j = 0 ∨ j = 1 ∨ j = 2 ∨ j = 3 ∨ j = 4 ∨ j = 5 ∨ j = 6 ∨ j = 7 by omega) with rfl | rfl | rfl | rfl | rfl | rfl | rfl | rfl <;> rfl
theorem ff_sum (n o : Nat) : ∀ j, o + j ≤ 8 * n → sumB (ffA n n) o j = j
  | 0, _ => rfl
  | j + 1, h => by rw [sumB, ff_sum n o j (by omega), ff_bit n _ (by omega)]
theorem noA_full (eta : Nat) (he : 1 ≤ eta ∧ eta ≤ 3) : noA eta (ffA (64 * eta) (64 * eta)) 256 = zero256 := by
  refine exq256 _ _ (noA_len _ _ _) List.length_replicate fun k hk => ?_
  have hm := Nat.mul_le_mul_right eta (show 2 * k + 2 ≤ 512 by omega)
  rw [Nat.add_mul] at hm
  rw [noA_get _ _ 256 k (by omega) hk, ones_sum _ _ _ (by omega), ones_sum _ _ _ (by omega), ff_sum _ _ _ (by omega), ff_sum _ _ _ (by omega), zero_get, zsub_eq, zmod_of_lt (by omega)]
  omega
end Go.Rx
