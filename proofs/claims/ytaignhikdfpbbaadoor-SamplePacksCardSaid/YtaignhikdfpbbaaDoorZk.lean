/- Plain functions and laws of layer 10: arithmetic by 3329. No program and no memory here. -/
import Derived.KernelRfl
set_option maxRecDepth 100000
set_option exponentiation.threshold 4000
namespace Go.Rx

def powers : List Nat := [1729, 2580, 2642, 1062, 296, 289, 17]
def zmod (x : Int) : Nat := (x % 3329).toNat
theorem zmod_lt (x : Int) : zmod x < 3329 := by unfold zmod; omega
theorem zmod_int (x : Int) : ((zmod x : Nat) : Int) = x % 3329 := by unfold zmod; omega
theorem zmod_nat (n : Nat) : zmod (n : Int) = n % 3329 := by unfold zmod; omega
theorem zmod_of_lt {n : Nat} (h : n < 3329) : zmod (n : Int) = n := by rw [zmod_nat, Nat.mod_eq_of_lt h]
theorem tm_emod (x m : Int) (hm : 0 < m) : (0 ≤ x.tmod m → x.tmod m = x % m) ∧ (x.tmod m < 0 → x.tmod m + m = x % m) ∧ -m < x.tmod m ∧ x.tmod m < m := by
  have e := Int.tmod_eq_emod (a := x) (b := m)
  have h1 := Int.emod_nonneg x (Int.ne_of_gt hm)
  have h2 := Int.emod_lt_of_pos x hm
  rw [e]
  by_cases h : 0 ≤ x ∨ m ∣ x
  · rw [if_pos h]; exact ⟨fun _ => by omega, fun _ => by omega, by omega, by omega⟩
  · rw [if_neg h]
    have h3 : x % m ≠ 0 := fun h3 => h (.inr (Int.dvd_of_emod_eq_zero h3))
    have h4 : ((m.natAbs : Nat) : Int) = m := by omega
    rw [h4]
    exact ⟨fun _ => by omega, fun _ => by omega, by omega, by omega⟩
theorem tm_facts (x : Int) : -3329 < x.tmod 3329 ∧ x.tmod 3329 < 3329 ∧ x.tmod 3329 + (if x.tmod 3329 < 0 then ((3329 : Nat) : Int) else 0) = ((zmod x : Nat) : Int) := by
  obtain ⟨h1, h2, h3, h4⟩ := tm_emod x 3329 (by decide)
  refine ⟨h3, h4, ?_⟩
  rw [zmod_int]
  split
  · rename_i h; rw [← h2 h]; rfl
  · rename_i h; rw [← h1 (by omega)]; omega
def zadd (a b : Int) : Nat := zmod ((zmod a + zmod b : Nat) : Int)
def zsub (a b : Int) : Nat := zmod (((zmod a : Nat) : Int) - ((zmod b : Nat) : Int))
def zmul (a b : Int) : Nat := zmod a * zmod b % 3329
theorem zmul_lt (a b : Int) : zmul a b < 3329 := Nat.mod_lt _ (by decide)
theorem zprod_le (a b : Int) : zmod a * zmod b ≤ 3328 * 3328 := Nat.mul_le_mul (by have := zmod_lt a; omega) (by have := zmod_lt b; omega)
theorem ofNat32 (n : Nat) (h : n < 4294967296) : (UInt32.ofNat n).toNat = n := UInt32.toNat_ofNat_of_lt' h
theorem mul_eq (a b : Int) : (UInt32.ofNat (zmod a * zmod b)).toNat % 3329 = zmul a b := by rw [ofNat32 _ (by have := zprod_le a b; omega)]; rfl

/-! ### Montgomery -/
theorem mont_k (x : UInt32) : (x * 3327 &&& 65535).toNat = x.toNat * 3327 % 65536 := by
  rw [UInt32.toNat_and, UInt32.toNat_mul]
  show (x.toNat * 3327 % 2 ^ 32) &&& (2 ^ 16 - 1) = _
  rw [Nat.and_two_pow_sub_one_eq_mod]; omega
theorem mont_eq (x : UInt32) : (UInt32.ofNat ((x.toNat + (x * 3327 &&& 65535).toNat * 3329) >>> 16)).toNat % 3329 % 3329 = x.toNat * 169 % 3329 := by
  have hx := x.toNat_lt
  rw [mont_k, Nat.shiftRight_eq_div_pow, ofNat32 _ (by omega)]
  omega
theorem mont_back (x : Nat) : x * 169 % 3329 * 65536 % 3329 = x % 3329 := by omega

/-! ### Powers -/
def pn (n : Nat) : Nat → Nat
  | 0 => n
  | k + 1 => pn n k >>> 1
def pa (a : Int) : Nat → Int
  | 0 => a
  | k + 1 => ((zmul (pa a k) (pa a k) : Nat) : Int)
def po (a : Int) (n : Nat) : Nat → Nat
  | 0 => 1
  | k + 1 => if (((pn n k : Nat) : Int) % (2 ^ 1 : Nat)).toNat = 1 then zmul ((po a n k : Nat) : Int) (pa a k) else po a n k
def zpow (a : Int) (n : Nat) : Nat := zmod a ^ n % 3329
theorem po_lt (a : Int) (n : Nat) : ∀ k, po a n k < 3329
  | 0 => (by decide : 1 < 3329)
  | k + 1 => by simp only [po]; split; exact zmul_lt _ _; exact po_lt a n k
theorem po_inv (a : Int) (n : Nat) (k : Nat) : po a n k * zmod (pa a k) ^ pn n k % 3329 = zmod a ^ n % 3329 := by
  induction k with
  | zero => simp [po, pa, pn]
  | succ k ih =>
    rw [← ih]
    have hd : pn n k >>> 1 = pn n k / 2 := by rw [Nat.shiftRight_eq_div_pow]
    have hz : zmod (pa a (k + 1)) = zmod (pa a k) * zmod (pa a k) % 3329 := by
      show zmod ((zmul (pa a k) (pa a k) : Nat) : Int) = _
      rw [zmod_of_lt (zmul_lt _ _)]; rfl
    have hp : (zmod (pa a k) * zmod (pa a k)) ^ (pn n k / 2) = zmod (pa a k) ^ (2 * (pn n k / 2)) := by rw [← Nat.pow_two, ← Nat.pow_mul]
    rw [hz]
    simp only [po, pn, hd]
    by_cases h : pn n k % 2 = 1
    · rw [if_pos (by omega)]
      have e : pn n k = 2 * (pn n k / 2) + 1 := by omega
      have e2 : zmul ((po a n k : Nat) : Int) (pa a k) = po a n k * zmod (pa a k) % 3329 := by unfold zmul; rw [zmod_of_lt (po_lt a n k)]
      rw [e2]
      conv => rhs; rw [e, Nat.pow_succ, ← hp]
      rw [Nat.mul_mod, Nat.mod_mod, Nat.pow_mod, Nat.mod_mod, ← Nat.pow_mod, ← Nat.mul_mod]
      rw [Nat.mul_comm (_ ^ _) (zmod (pa a k)), Nat.mul_assoc]
    · rw [if_neg (by omega)]
      have e : pn n k = 2 * (pn n k / 2) := by omega
      conv => rhs; rw [e, ← hp]
      rw [Nat.mul_mod, Nat.pow_mod, Nat.mod_mod, ← Nat.pow_mod, ← Nat.mul_mod]
theorem po_end (a : Int) (n k : Nat) (h : ¬ pn n k > 0) : po a n k = zpow a n := by
  have e := po_inv a n k
  rw [show pn n k = 0 by omega, Nat.pow_zero, Nat.mul_one, Nat.mod_eq_of_lt (po_lt a n k)] at e
  exact e
def zpowZ (a n : Int) : Nat := if n < 0 then 0 else zpow a n.toNat

def rp (z : Nat) : Nat → Nat
  | 0 => 1
  | i + 1 => rp z i * z % 3329
theorem rp_lt (z : Nat) : ∀ i, rp z i < 3329
  | 0 => (by decide : 1 < 3329)
  | i + 1 => Nat.mod_lt _ (by decide)
theorem rp_eq (z : Nat) : ∀ i, rp z i = z ^ i % 3329
  | 0 => rfl
  | i + 1 => by rw [rp, rp_eq z i, Nat.pow_succ, Nat.mul_mod, Nat.mod_mod, ← Nat.mul_mod]
def rpow (a : Int) (n : Nat) : Nat := if zmod a = 0 ∧ 0 < n then 0 else rp (zmod a) (n % 3328)
def rpowZ (a n : Int) : Nat := if n < 0 then 0 else rpow a n.toNat

/-- A check of all numbers below n, by halves. -/
def allB (p : Nat → Bool) : Nat → Nat → Bool
  | 0, i => p i
  | d + 1, i => allB p d (2 * i) && allB p d (2 * i + 1)
theorem allB_spec (p : Nat → Bool) : ∀ d i, allB p d i = true → ∀ j, i * 2 ^ d ≤ j → j < (i + 1) * 2 ^ d → p j = true
  | 0, i, h, j, h1, h2 => by
    have : j = i := by omega
    subst this; exact h
  | d + 1, i, h, j, h1, h2 => by
    simp only [allB, Bool.and_eq_true] at h
    have e : 2 ^ (d + 1) = 2 * 2 ^ d := by rw [Nat.pow_succ]; omega
    rw [e, ← Nat.mul_assoc, Nat.mul_comm i 2] at h1
    rw [e, ← Nat.mul_assoc, Nat.mul_comm (i + 1) 2] at h2
    by_cases hj : j < (2 * i + 1) * 2 ^ d
    · exact allB_spec p d (2 * i) h.1 j h1 hj
    · exact allB_spec p d (2 * i + 1) h.2 j (by omega) (by rw [show 2 * i + 1 + 1 = 2 * (i + 1) by omega]; exact h2)
def powm (a : Nat) (n : Nat) : Nat := a ^ n % 3329
/-- a to the power of 3328 by twelve squarings: 3328 = 2^8 * 13. -/
def sq (a : Nat) : Nat := a * a % 3329
def p13 (a : Nat) : Nat := a * sq (sq a) % 3329 * sq (sq (sq a)) % 3329
def p3328 (a : Nat) : Nat := sq (sq (sq (sq (sq (sq (sq (sq (p13 a))))))))
theorem fermat_all : allB (fun a => Nat.beq (a % 3329) 0 || Nat.beq (p3328 a) 1) 12 0 = true := by decide +kernel
theorem sq_eq (a n m : Nat) (h : m = a ^ n % 3329) : sq m = a ^ (2 * n) % 3329 := by
  subst h; unfold sq; rw [← Nat.mul_mod, ← Nat.pow_two, ← Nat.pow_mul, Nat.mul_comm n 2]
theorem p3328_eq (a : Nat) (ha : a < 3329) : p3328 a = a ^ 3328 % 3329 := by
  have h1 : a = a ^ 1 % 3329 := by rw [Nat.pow_one, Nat.mod_eq_of_lt ha]
  have h2 := sq_eq a 1 a h1
  have h4 := sq_eq a 2 _ h2
  have h8 := sq_eq a 4 _ h4
  have h13 : p13 a = a ^ 13 % 3329 := by
    unfold p13
    rw [h8, h4]
    rw [Nat.mul_mod_mod, Nat.mod_mul_mod, Nat.mul_comm a, Nat.mul_assoc, Nat.mod_mul_mod]
    congr 1
    rw [show a ^ 13 = a ^ (2 * 2 + (1 + 2 * 4)) from rfl, Nat.pow_add, Nat.pow_add, Nat.pow_one]
  exact sq_eq a 1664 _ (sq_eq a 832 _ (sq_eq a 416 _ (sq_eq a 208 _ (sq_eq a 104 _ (sq_eq a 52 _ (sq_eq a 26 _ (sq_eq a 13 _ h13)))))))
theorem fermat (a : Nat) (h0 : a ≠ 0) (ha : a < 3329) : a ^ 3328 % 3329 = 1 := by
  have h := allB_spec _ 12 0 fermat_all a (by omega) (by omega)
  rw [Nat.mod_eq_of_lt ha] at h
  simp only [Bool.or_eq_true] at h
  rw [← p3328_eq a ha]
  rcases h with h | h
  · exact absurd (Nat.eq_of_beq_eq_true h) h0
  · exact Nat.eq_of_beq_eq_true h
theorem pow_red (a n : Nat) (h0 : a ≠ 0) (ha : a < 3329) : a ^ n % 3329 = a ^ (n % 3328) % 3329 := by
  conv => lhs; rw [← Nat.div_add_mod n 3328, Nat.pow_add, Nat.pow_mul, Nat.mul_mod, Nat.pow_mod, fermat a h0 ha, Nat.one_pow]
  rw [Nat.mul_mod, Nat.mod_mod, Nat.mod_mod]; simp
theorem pow_eq (a : Int) (n : Nat) : zpow a n = rpow a n := by
  unfold zpow rpow
  by_cases h : zmod a = 0
  · by_cases hn : 0 < n
    · rw [if_pos ⟨h, hn⟩, h, Nat.zero_pow hn]
    · rw [if_neg (fun x => hn x.2), rp_eq, show n = 0 by omega]
  · rw [if_neg (fun x => h x.1), rp_eq, pow_red _ _ h (zmod_lt a)]
theorem powZ_eq (a n : Int) : zpowZ a n = rpowZ a n := by unfold zpowZ rpowZ; split; rfl; exact pow_eq _ _

/-! ### Rounding -/
def zcomp (d : Nat) (x : Int) : Nat := (zmod x * 2 ^ (d + 1) + 3329) / 6658 % 2 ^ d
def zcompZ (d x : Int) : Nat := if 1 ≤ d ∧ d ≤ 11 then zcomp d.toNat x else 0
def zdec (d : Nat) (y : Int) : Nat := (6658 * (y % (2 ^ d : Nat)).toNat + 2 ^ d) / 2 ^ (d + 1)
def zdecZ (d y : Int) : Nat := if 1 ≤ d ∧ d ≤ 11 then zdec d.toNat y else 0

/-! ### Zetas -/
def zz (i : Int) : Nat → Nat
  | 0 => 1
  | j + 1 => if (i / 2 ^ j % (2 ^ 1 : Nat)).toNat = 1 then zmul ((zz i j : Nat) : Int) ((powers.getD j 0 : Nat) : Int) else zz i j
def tu0 (i : Int) : Nat → Nat
  | 0 => (i % (2 ^ 7 : Nat)).toNat
  | j + 1 => tu0 i j / 2
def tuN (i : Int) : Nat → Nat
  | 0 => 0
  | j + 1 => tuN i j * 2 + tu0 i j % 2
def turned (i : Int) : Nat := tuN i 7
theorem tuN_le (i : Int) : ∀ j, tuN i j < 2 ^ j
  | 0 => (by decide : 0 < 1)
  | j + 1 => by have := tuN_le i j; simp only [tuN]; rw [Nat.pow_succ]; omega
theorem tu0_le (i : Int) : ∀ j, tu0 i j < 128
  | 0 => by simp only [tu0]; omega
  | j + 1 => by have := tu0_le i j; simp only [tu0]; omega
theorem tu0_red (i : Int) : ∀ j, tu0 i j = tu0 (i % 128) j
  | 0 => by simp only [tu0]; omega
  | j + 1 => by rw [tu0, tu0, tu0_red i j]
theorem tuN_red (i : Int) : ∀ j, tuN i j = tuN (i % 128) j
  | 0 => rfl
  | j + 1 => by rw [tuN, tuN, tuN_red i j, tu0_red i j]
theorem zz_red (i : Int) : ∀ j, j ≤ 7 → zz i j = zz (i % 128) j
  | 0, _ => rfl
  | j + 1, h => by
    have hb : (i / 2 ^ j % (2 ^ 1 : Nat)).toNat = (i % 128 / 2 ^ j % (2 ^ 1 : Nat)).toNat := by
      match j, h with
      | 0, _ => omega
      | 1, _ => omega
      | 2, _ => omega
      | 3, _ => omega
      | 4, _ => omega
      | 5, _ => omega
      | 6, _ => omega
    rw [zz, zz, zz_red i j (by omega), hb]
theorem zeta_all : allB (fun r => Nat.beq (zz (r : Int) 7) (zpow 17 (turned (r : Int)))) 7 0 = true := by decide +kernel
theorem zeta_eq (i : Int) : zz i 7 = rpow 17 (turned i) := by
  have h := allB_spec _ 7 0 zeta_all (i % 128).toNat (by omega) (by omega)
  have h := Nat.eq_of_beq_eq_true h
  rw [show (((i % 128).toNat : Nat) : Int) = i % 128 by omega] at h
  rw [← pow_eq, zz_red i 7 (Nat.le_refl _), h]
  unfold turned
  rw [tuN_red i 7]

/-! ### A field -/
theorem zadd_eq (a b : Int) : zadd a b = (zmod a + zmod b) % 3329 := zmod_nat _
theorem zsub_eq (a b : Int) : zsub a b = (zmod a + 3329 - zmod b) % 3329 := by have := zmod_lt b; unfold zsub zmod at *; omega
theorem zmod_zmod (x : Int) : zmod ((zmod x : Nat) : Int) = zmod x := zmod_of_lt (zmod_lt x)
theorem zmod_zadd (a b : Int) : zmod ((zadd a b : Nat) : Int) = zadd a b := zmod_of_lt (zmod_lt _)
theorem zmod_zsub (a b : Int) : zmod ((zsub a b : Nat) : Int) = zsub a b := zmod_of_lt (zmod_lt _)
theorem zmod_zmul (a b : Int) : zmod ((zmul a b : Nat) : Int) = zmul a b := zmod_of_lt (zmul_lt _ _)
theorem add_assoc_z (a b c : Int) : zadd ((zadd a b : Nat) : Int) c = zadd a ((zadd b c : Nat) : Int) := by
  rw [zadd_eq ((zadd a b : Nat) : Int) c, zadd_eq a ((zadd b c : Nat) : Int), zmod_zadd, zmod_zadd, zadd_eq, zadd_eq]; omega
theorem mul_assoc_z (a b c : Int) : zmul ((zmul a b : Nat) : Int) c = zmul a ((zmul b c : Nat) : Int) := by
  show zmod _ * zmod c % 3329 = zmod a * zmod _ % 3329
  rw [zmod_zmul, zmod_zmul]
  show zmod a * zmod b % 3329 * zmod c % 3329 = zmod a * (zmod b * zmod c % 3329) % 3329
  rw [Nat.mod_mul_mod, Nat.mul_mod_mod, Nat.mul_assoc]
theorem dist_z (a b c : Int) : zmul a ((zadd b c : Nat) : Int) = zadd ((zmul a b : Nat) : Int) ((zmul a c : Nat) : Int) := by
  rw [zadd_eq ((zmul a b : Nat) : Int), zmod_zmul, zmod_zmul]
  show zmod a * zmod _ % 3329 = (zmod a * zmod b % 3329 + zmod a * zmod c % 3329) % 3329
  rw [zmod_zadd, zadd_eq, Nat.mul_mod_mod, Nat.mul_add, ← Nat.add_mod]
theorem sub_add_z (a b : Int) : zadd ((zsub a b : Nat) : Int) b = zmod a := by
  rw [zadd_eq, zmod_zsub, zsub_eq]; have := zmod_lt a; have := zmod_lt b; omega
theorem inv_zero (a : Int) (h : zmod a = 0) : zmul a ((zpow a 3327 : Nat) : Int) = 0 := by unfold zmul; rw [h, Nat.zero_mul]
theorem inv_one (a : Int) (h : zmod a ≠ 0) : zmul a ((zpow a 3327 : Nat) : Int) = 1 := by
  unfold zmul
  rw [zmod_of_lt (show zpow a 3327 < 3329 from Nat.mod_lt _ (by decide)), zpow, Nat.mul_mod_mod, Nat.mul_comm, ← Nat.pow_succ]
  exact fermat _ h (zmod_lt a)
/-- Rounded, spread and rounded again. -/
theorem spread_all : allB (fun r => allB (fun s => !(decide (1 ≤ r) && decide (r ≤ 11) && decide (s < 2 ^ r)) || (Nat.beq (zcomp r ((zdec r (s : Int) : Nat) : Int)) s && decide (zdec r (s : Int) < 3329))) 11 0) 4 0 = true := by decide +kernel
theorem zdec_red (d : Nat) (y : Int) : zdec d y = zdec d (((y % (2 ^ d : Nat)).toNat : Nat) : Int) := by
  unfold zdec
  have hp : (0 : Int) < ((2 ^ d : Nat) : Int) := Int.natCast_pos.2 (Nat.two_pow_pos d)
  have h1 := Int.emod_nonneg y (Int.ne_of_gt hp)
  rw [Int.toNat_of_nonneg h1, Int.emod_emod]
theorem spread_eq (d : Nat) (y : Int) (h1 : 1 ≤ d) (h2 : d ≤ 11) : zcomp d ((zdec d y : Nat) : Int) = (y % (2 ^ d : Nat)).toNat ∧ zdec d y < 3329 := by
  have h := allB_spec _ 4 0 spread_all d (by omega) (by omega)
  have hp : (0 : Int) < ((2 ^ d : Nat) : Int) := Int.natCast_pos.2 (Nat.two_pow_pos d)
  have h3 := Int.emod_nonneg y (Int.ne_of_gt hp)
  have h4 := Int.emod_lt_of_pos y hp
  have h5 : (y % (2 ^ d : Nat)).toNat < 2 ^ d := by omega
  have h6 : 2 ^ d ≤ 2 ^ 11 := Nat.pow_le_pow_right (by decide) h2
  have h := allB_spec _ 11 0 h (y % (2 ^ d : Nat)).toNat (by omega) (by omega)
  rw [zdec_red]
  simp only [h1, h2, h5, decide_true, Bool.and_self, Bool.not_true, Bool.false_or, Bool.and_eq_true, decide_eq_true_eq] at h
  exact ⟨Nat.eq_of_beq_eq_true h.1, h.2⟩
end Go.Rx
