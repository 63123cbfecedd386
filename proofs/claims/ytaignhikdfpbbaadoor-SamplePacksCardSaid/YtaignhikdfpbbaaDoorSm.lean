/- Plain functions: polynomials from bytes, bytes of them. -/
import Derived.Test.YtaignhikdfpbbaaDoorZk
import Derived.Test.YtaignhikdfpbbaaDoorSx
namespace Go.Rx
def bitN (b : List UInt8) (k : Nat) : Nat := (b.getD (k / 8) 0).toNat / 2 ^ (k % 8) % 2
theorem bitN_lt (b : List UInt8) (k : Nat) : bitN b k < 2 := Nat.mod_lt _ (by omega)
theorem u8bit (x : UInt8) (j : Nat) (hj : j < 8) : ((x >>> UInt8.ofNat j) &&& 1).toNat = x.toNat / 2 ^ j % 2 := by
  have h1 : (1 : UInt8).toNat = 2 ^ 1 - 1 := rfl
  rw [UInt8.toNat_and, h1, Nat.and_two_pow_sub_one_eq_mod, UInt8.toNat_shiftRight]
  have e1 : (UInt8.ofNat j).toNat % 8 = j := by rw [UInt8.toNat_ofNat']; omega
  rw [e1, Nat.shiftRight_eq_div_pow]
def btA (b : List UInt8) (at' : Nat) : Nat → Nat
  | 0 => 0
  | i + 1 => btA b at' i + bitN b (at' + i) * 2 ^ i
theorem btA_lt (b : List UInt8) (at' : Nat) : ∀ i, btA b at' i < 2 ^ i
  | 0 => by simp [btA]
  | i + 1 => by
    have h1 := btA_lt b at' i; have h2 := bitN_lt b (at' + i)
    have h3 : bitN b (at' + i) * 2 ^ i ≤ 1 * 2 ^ i := Nat.mul_le_mul_right _ (by omega)
    rw [btA, Nat.pow_succ]; omega
theorem btA_or (b : List UInt8) (at' i : Nat) : btA b at' i ||| bitN b (at' + i) * 2 ^ i = btA b at' (i + 1) := by
  rw [Nat.or_comm, Nat.mul_comm, ← Nat.two_pow_add_eq_or_of_lt (btA_lt b at' i), btA, Nat.mul_comm]; omega
theorem btA_le (b : List UInt8) (at' n i : Nat) (hn : n ≤ 12) (hi : i ≤ n) : btA b at' i ≤ 4096 := by
  have h1 := btA_lt b at' i
  have h2 : 2 ^ i ≤ 2 ^ 12 := Nat.pow_le_pow_right (by omega) (by omega)
  omega
theorem bit_sh (b : List UInt8) (k i : Nat) (hi : i ≤ 12) : bitN b k * 2 ^ i ≤ 4096 := by
  have h2 : 2 ^ i ≤ 2 ^ 12 := Nat.pow_le_pow_right (by omega) hi
  have h3 : bitN b k * 2 ^ i ≤ 1 * 2 ^ i := Nat.mul_le_mul_right _ (by have := bitN_lt b k; omega)
  omega
def shA (X : Nat) : Nat → Nat
  | 0 => X
  | j + 1 => shA X j >>> 1
theorem shA_half (X j : Nat) : shA X (j + 1) = shA X j / 2 := by rw [shA, Nat.shiftRight_eq_div_pow]
def pcA (X : Nat) : Nat → Nat
  | 0 => 0
  | j + 1 => pcA X j + shA X j % 2
theorem pcA_le (X : Nat) : ∀ j, pcA X j + shA X j ≤ X
  | 0 => by simp [pcA, shA]
  | j + 1 => by have := pcA_le X j; rw [pcA, shA_half]; omega
theorem shA_eq (X : Nat) : ∀ j, shA X j = X / 2 ^ j
  | 0 => by simp [shA]
  | j + 1 => by rw [shA_half, shA_eq X j, Nat.div_div_eq_div_mul, Nat.pow_succ]
theorem pcA_more (X j : Nat) (h : shA X j = 0) : ∀ m, pcA X (j + m) = pcA X j ∧ shA X (j + m) = 0
  | 0 => ⟨rfl, h⟩
  | m + 1 => by
    obtain ⟨h1, h2⟩ := pcA_more X j h m
    rw [← Nat.add_assoc]
    exact ⟨by rw [pcA, h1, h2, Nat.zero_mod, Nat.add_zero], by rw [shA_half, h2]⟩
def pc (X : Nat) : Nat := pcA X 12
theorem pc_eq (X j : Nat) (hX : X ≤ 4095) (h : shA X j = 0) : pcA X j = pc X := by
  have h12 : shA X 12 = 0 := by rw [shA_eq]; omega
  rcases Nat.le_total j 12 with hj | hj
  · obtain ⟨m, hm⟩ := Nat.exists_eq_add_of_le hj
    have := (pcA_more X j h m).1
    rw [pc, hm, this]
  · obtain ⟨m, hm⟩ := Nat.exists_eq_add_of_le hj
    have := (pcA_more X 12 h12 m).1
    rw [hm, this, pc]
def onesN (b : List UInt8) (at' n : Nat) : Nat := pc (btA b at' n)
abbrev zero256 : List Int := List.replicate 256 0
def noA (eta : Nat) (b : List UInt8) : Nat → List Int
  | 0 => zero256
  | i + 1 => (noA eta b i).set i ((zsub ((onesN b (2 * i * eta) eta : Nat) : Int) ((onesN b (2 * i * eta + eta) eta : Nat) : Int) : Nat) : Int)
theorem noA_len (eta : Nat) (b : List UInt8) : ∀ i, (noA eta b i).length = 256
  | 0 => List.length_replicate
  | i + 1 => by rw [noA, List.length_set]; exact noA_len eta b i
def noiP (eta : Int) (b : List UInt8) : List Int := if 1 ≤ eta ∧ eta ≤ 3 ∧ (b.length : Int) = 64 * eta then noA eta.toNat b 256 else zero256
def noiE (eta : Int) (b : List UInt8) : Nat := if 1 ≤ eta ∧ eta ≤ 3 ∧ (b.length : Int) = 64 * eta then 0 else 1
theorem noiP_len (eta : Int) (b : List UInt8) : (noiP eta b).length = 256 := by unfold noiP; split; exact noA_len _ _ _; exact List.length_replicate
def prfB (eta : Int) (seed : List UInt8) (n : UInt8) : List UInt8 := sqz (absR 136 31 noughts [seed, [n]].flatten) 136 (64 * eta).toNat
def prfP (eta : Int) (seed : List UInt8) (n : UInt8) : List Int := if 1 ≤ eta ∧ eta ≤ 3 then noA eta.toNat (prfB eta seed n) 256 else zero256
def prfE (eta : Int) : Nat := if 1 ≤ eta ∧ eta ≤ 3 then 0 else 1
theorem prfP_len (eta : Int) (s : List UInt8) (n : UInt8) : (prfP eta s n).length = 256 := by unfold prfP; split; exact noA_len _ _ _; exact List.length_replicate
def unA (d : Nat) (b : List UInt8) : Nat → List Int
  | 0 => zero256
  | i + 1 => (unA d b i).set i ((zmod ((btA b (d * i) d : Nat) : Int) : Nat) : Int)
theorem unA_len (d : Nat) (b : List UInt8) : ∀ i, (unA d b i).length = 256
  | 0 => List.length_replicate
  | i + 1 => by rw [unA, List.length_set]; exact unA_len d b i
def unpP (d : Int) (b : List UInt8) : List Int := if 1 ≤ d ∧ d ≤ 12 ∧ (b.length : Int) = 32 * d then unA d.toNat b 256 else zero256
def unpE (d : Int) (b : List UInt8) : Nat := if 1 ≤ d ∧ d ≤ 12 ∧ (b.length : Int) = 32 * d then 0 else 1
theorem unpP_len (d : Int) (b : List UInt8) : (unpP d b).length = 256 := by unfold unpP; split; exact unA_len _ _ _; exact List.length_replicate
/-- One coefficient's bits laid down. -/
def paB (c : Nat) (at' : Nat) (o : List UInt8) : Nat → List UInt8
  | 0 => o
  | j + 1 => (paB c at' o j).set ((at' + j) / 8) ((paB c at' o j).getD ((at' + j) / 8) 0 ||| (UInt8.ofNat (c / 2 ^ j % 2) <<< UInt8.ofNat ((at' + j) % 8)))
theorem paB_len (c at' : Nat) (o : List UInt8) : ∀ j, (paB c at' o j).length = o.length
  | 0 => rfl
  | j + 1 => by rw [paB, List.length_set]; exact paB_len c at' o j
def paA (d : Nat) (p : List Int) : Nat → List UInt8
  | 0 => List.replicate (32 * d) 0
  | i + 1 => paB (zmod (p.getD i 0)) (d * i) (paA d p i) d
theorem paA_len (d : Nat) (p : List Int) : ∀ i, (paA d p i).length = 32 * d
  | 0 => List.length_replicate
  | i + 1 => by rw [paA, paB_len]; exact paA_len d p i
def pack (d : Int) (p : List Int) : List UInt8 := if 1 ≤ d ∧ d ≤ 12 then paA d.toNat p 256 else []
def sqA (d : Int) (p : List Int) : Nat → List Int
  | 0 => p
  | i + 1 => (sqA d p i).set i ((zcompZ d ((sqA d p i).getD i 0) : Nat) : Int)
theorem sqA_len (d : Int) (p : List Int) : ∀ i, (sqA d p i).length = p.length
  | 0 => rfl
  | i + 1 => by rw [sqA, List.length_set]; exact sqA_len d p i
def spA (d : Int) (p : List Int) : Nat → List Int
  | 0 => p
  | i + 1 => (spA d p i).set i ((zdecZ d ((spA d p i).getD i 0) : Nat) : Int)
theorem spA_len (d : Int) (p : List Int) : ∀ i, (spA d p i).length = p.length
  | 0 => rfl
  | i + 1 => by rw [spA, List.length_set]; exact spA_len d p i
theorem prf_eq (eta : Nat) (seed : List UInt8) (n : UInt8) : (xrun 136 (((64 * eta : Nat) : Int)).toNat (absR 136 31 noughts [seed, [n]].flatten, tk (absR 136 31 noughts [seed, [n]].flatten) 136, [])).2.2 = prfB (eta : Int) seed n := by
  rw [xr_sqz _ (absR_len _ _ _) 136 _ (by omega), prfB]
  congr 1
theorem prfB_len (eta : Nat) (seed : List UInt8) (n : UInt8) (h : eta ≤ 3) : (prfB (eta : Int) seed n).length = 64 * eta := by
  rw [prfB, sqz_len _ _ _ (by omega)]; omega
end Go.Rx
