/- Laws of the permutation that need no reference: sums of states; no two states have the same permutation; how many bits are 1. -/
import Derived.Test.YtdfgdaeboidkhaaDoorPe
set_option maxRecDepth 100000
namespace Go.Rx

/-! ### Sums -/
def xoA (a b : List UInt64) : Nat → List UInt64
  | 0 => List.replicate 25 0
  | k + 1 => (xoA a b k).set k (a.getD k 0 ^^^ b.getD k 0)
theorem xoA_len (a b : List UInt64) : ∀ k, (xoA a b k).length = 25
  | 0 => List.length_replicate
  | k + 1 => by rw [xoA, List.length_set]; exact xoA_len a b k
theorem xoA_get (a b : List UInt64) : ∀ n, n ≤ 25 → ∀ j, j < 25 → (xoA a b n).getD j 0 = if j < n then a.getD j 0 ^^^ b.getD j 0 else 0 := by
  intro n
  induction n with
  | zero => intro _ j _; rw [xoA, getD_rep, if_neg (by omega)]
  | succ n ih =>
    intro hn j hj
    rw [xoA, getD_set (by rw [xoA_len]; omega)]
    by_cases e : n = j
    · subst e; rw [if_pos rfl, if_pos (by omega)]
    · rw [if_neg e, ih (by omega) j hj]
      by_cases h : j < n
      · rw [if_pos h, if_pos (by omega)]
      · rw [if_neg h, if_neg (by omega)]
theorem xo_get (a b : List UInt64) (j : Nat) (hj : j < 25) : (xoA a b 25).getD j 0 = a.getD j 0 ^^^ b.getD j 0 := by rw [xoA_get a b 25 (Nat.le_refl _) j hj, if_pos hj]

theorem u_ext {x y : UInt64} (h : ∀ z, z < 64 → x.toBitVec.getLsbD z = y.toBitVec.getLsbD z) : x = y := by
  apply UInt64.toBitVec_inj.1; apply BitVec.eq_of_getLsbD_eq; exact h
theorem rotl_xor (x y : UInt64) (k : Nat) (hk : k < 64) : rotl (x ^^^ y) k = rotl x k ^^^ rotl y k :=
  u_ext fun z hz => by rw [bits_rotl _ k hk z hz, bt_xor, bt_xor, bits_rotl x k hk z hz, bits_rotl y k hk z hz]
theorem rotl_inj (x y : UInt64) (k : Nat) (hk : k < 64) (h : rotl x k = rotl y k) : x = y :=
  u_ext fun z hz => by
    have h1 := congrArg (fun u : UInt64 => u.toBitVec.getLsbD ((z + k) % 64)) h
    simp only [bits_rotl _ k hk _ (Nat.mod_lt _ (by decide : 0 < 64))] at h1
    rw [show ((z + k) % 64 + (64 - k)) % 64 = z by omega] at h1
    exact h1
theorem xor4 (a b c d : UInt64) : (a ^^^ b) ^^^ (c ^^^ d) = (a ^^^ c) ^^^ (b ^^^ d) := u_ext fun z _ => by
  simp only [bt_xor]; cases a.toBitVec.getLsbD z <;> cases b.toBitVec.getLsbD z <;> cases c.toBitVec.getLsbD z <;> cases d.toBitVec.getLsbD z <;> rfl
theorem thC_xo (a b : List UInt64) (x : Nat) (hx : x < 5) : (thC (xoA a b 25) 5).getD x 0 = (thC a 5).getD x 0 ^^^ (thC b 5).getD x 0 := by
  rw [thC_get _ 5 (Nat.le_refl _) x hx, thC_get _ 5 (Nat.le_refl _) x hx, thC_get _ 5 (Nat.le_refl _) x hx, xo_get a b _ (by omega), xo_get a b _ (by omega), xo_get a b _ (by omega), xo_get a b _ (by omega), xo_get a b _ (by omega)]
  rw [xor4 (a.getD x 0) _ (a.getD (x + 5) 0), xor4 _ _ (a.getD (x + 10) 0), xor4 _ _ (a.getD (x + 15) 0), xor4 _ _ (a.getD (x + 20) 0)]
theorem theta_xo (a b : List UInt64) (ha : a.length = 25) (hb : b.length = 25) (j : Nat) (hj : j < 25) : (theta a).getD j 0 ^^^ (theta b).getD j 0 = (theta (xoA a b 25)).getD j 0 := by
  rw [theta_get a ha j hj, theta_get b hb j hj, theta_get _ (xoA_len a b 25) j hj]
  unfold thT
  rw [thC_xo a b _ (Nat.mod_lt _ (by decide)), thC_xo a b _ (Nat.mod_lt _ (by decide)), xo_get a b j hj, rotl_xor _ _ 1 (by decide), xor4, xor4 ((thC a 5).getD _ 0)]
theorem rho_get (l : List UInt64) (hl : l.length = 25) (j : Nat) (hj : j < 25) : (rho l).getD j 0 = rotl (l.getD j 0) (turns.getD j 0) := by rw [rho, rhoA_get l hl 25 (Nat.le_refl _) j hj, if_pos hj]
theorem rho_xo (a b : List UInt64) (ha : a.length = 25) (hb : b.length = 25) (j : Nat) (hj : j < 25) : (rho a).getD j 0 ^^^ (rho b).getD j 0 = (rho (xoA a b 25)).getD j 0 := by
  rw [rho_get a ha j hj, rho_get b hb j hj, rho_get _ (xoA_len a b 25) j hj, xo_get a b j hj, rotl_xor _ _ _ (turns_lt j hj)]
theorem piA_get (l : List UInt64) : ∀ n, n ≤ 25 → ∀ j, j < 25 → (piA l n).getD j 0 = if j < n then l.getD ((j % 5 + 3 * (j / 5)) % 5 + 5 * (j % 5)) 0 else 0 := by
  intro n
  induction n with
  | zero => intro _ j _; rw [piA, getD_rep, if_neg (by omega)]
  | succ n ih =>
    intro hn j hj
    rw [piA, getD_set (by rw [piA_len]; omega)]
    by_cases e : n = j
    · subst e; rw [if_pos rfl, if_pos (by omega)]
    · rw [if_neg e, ih (by omega) j hj]
      by_cases h : j < n
      · rw [if_pos h, if_pos (by omega)]
      · rw [if_neg h, if_neg (by omega)]
theorem pi_get (l : List UInt64) (j : Nat) (hj : j < 25) : (pi l).getD j 0 = l.getD ((j % 5 + 3 * (j / 5)) % 5 + 5 * (j % 5)) 0 := by rw [pi, piA_get l 25 (Nat.le_refl _) j hj, if_pos hj]
theorem pi_xo (a b : List UInt64) (j : Nat) (hj : j < 25) : (pi a).getD j 0 ^^^ (pi b).getD j 0 = (pi (xoA a b 25)).getD j 0 := by
  rw [pi_get a j hj, pi_get b j hj, pi_get _ j hj, xo_get a b _ (by omega)]

/-! ### No two states have the same permutation -/
theorem xor_inj (x y c : UInt64) (h : x ^^^ c = y ^^^ c) : x = y := u_ext fun z _ => by
  have h1 := congrArg (fun u : UInt64 => u.toBitVec.getLsbD z) h
  simp only [bt_xor] at h1
  cases hx : x.toBitVec.getLsbD z <;> cases hy : y.toBitVec.getLsbD z <;> cases hc : c.toBitVec.getLsbD z <;> simp_all
theorem iota_inj (l m : List UInt64) (hl : l.length = 25) (hm : m.length = 25) (k : Nat) (h : iota l k = iota m k) : l = m :=
  ext25 hl hm fun j hj => by
    have h1 := congrArg (fun u : List UInt64 => u.getD j 0) h
    simp only [iota, getD_set (show 0 < l.length by omega), getD_set (show 0 < m.length by omega)] at h1
    by_cases e : 0 = j
    · subst e; rw [if_pos rfl, if_pos rfl] at h1; exact xor_inj _ _ _ h1
    · rw [if_neg e, if_neg e] at h1; exact h1
theorem row_bits : ∀ a0 a1 a2 a3 a4 b0 b1 b2 b3 b4 : Bool, (a0 ^^ (a2 && !a1)) = (b0 ^^ (b2 && !b1)) → (a1 ^^ (a3 && !a2)) = (b1 ^^ (b3 && !b2)) → (a2 ^^ (a4 && !a3)) = (b2 ^^ (b4 && !b3)) → (a3 ^^ (a0 && !a4)) = (b3 ^^ (b0 && !b4)) → (a4 ^^ (a1 && !a0)) = (b4 ^^ (b1 && !b0)) →
    a0 = b0 ∧ a1 = b1 ∧ a2 = b2 ∧ a3 = b3 ∧ a4 = b4 := by decide +kernel
theorem bt_chi (x y u : UInt64) (z : Nat) (hz : z < 64) : (x ^^^ (y &&& ~~~u)).toBitVec.getLsbD z = (x.toBitVec.getLsbD z ^^ (y.toBitVec.getLsbD z && !u.toBitVec.getLsbD z)) := by
  rw [bt_xor, UInt64.toBitVec_and, BitVec.getLsbD_and, UInt64.toBitVec_not, BitVec.getLsbD_not]; simp [hz]
theorem chi_inj (l m : List UInt64) (hl : l.length = 25) (hm : m.length = 25) (h : chi l = chi m) : l = m :=
  ext25 hl hm fun j hj => by
    have g : ∀ i, i < 25 → chT l i = chT m i := fun i hi => by
      have h1 := congrArg (fun u : List UInt64 => u.getD i 0) h
      simp only [chi, chiA_get l hl 25 (Nat.le_refl _) i hi, chiA_get m hm 25 (Nat.le_refl _) i hi, if_pos hi] at h1
      exact h1
    have all : ∀ r, r < 5 → ∀ z, z < 64 → ∀ i, i < 5 → (l.getD (5 * r + i) 0).toBitVec.getLsbD z = (m.getD (5 * r + i) 0).toBitVec.getLsbD z := by
      intro r hr z hz
      have e : ∀ i, i < 5 → ∀ p q, (i + 2) % 5 = p → (i + 1) % 5 = q → ((l.getD (5 * r + i) 0).toBitVec.getLsbD z ^^ ((l.getD (5 * r + p) 0).toBitVec.getLsbD z && !(l.getD (5 * r + q) 0).toBitVec.getLsbD z)) = ((m.getD (5 * r + i) 0).toBitVec.getLsbD z ^^ ((m.getD (5 * r + p) 0).toBitVec.getLsbD z && !(m.getD (5 * r + q) 0).toBitVec.getLsbD z)) := by
        intro i hi p q hp hq
        have h1 := congrArg (fun u : UInt64 => u.toBitVec.getLsbD z) (g (5 * r + i) (by omega))
        simp only [chT, bt_chi _ _ _ z hz] at h1
        rw [show 5 * r + i - (5 * r + i) % 5 + ((5 * r + i) % 5 + 2) % 5 = 5 * r + p by omega, show 5 * r + i - (5 * r + i) % 5 + ((5 * r + i) % 5 + 1) % 5 = 5 * r + q by omega] at h1
        exact h1
      obtain ⟨k0, k1, k2, k3, k4⟩ := row_bits _ _ _ _ _ _ _ _ _ _ (e 0 (by decide) 2 1 rfl rfl) (e 1 (by decide) 3 2 rfl rfl) (e 2 (by decide) 4 3 rfl rfl) (e 3 (by decide) 0 4 rfl rfl) (e 4 (by decide) 1 0 rfl rfl)
      intro i hi
      match i, hi with
      | 0, _ => exact k0
      | 1, _ => exact k1
      | 2, _ => exact k2
      | 3, _ => exact k3
      | 4, _ => exact k4
    refine u_ext fun z hz => ?_
    have := all (j / 5) (by omega) z hz (j % 5) (by omega)
    rwa [show 5 * (j / 5) + j % 5 = j by omega] at this
theorem pi_at : ∀ j, j < 25 → ∃ i, i < 25 ∧ (i % 5 + 3 * (i / 5)) % 5 + 5 * (i % 5) = j := by decide
theorem pi_inj (l m : List UInt64) (hl : l.length = 25) (hm : m.length = 25) (h : pi l = pi m) : l = m :=
  ext25 hl hm fun j hj => by
    obtain ⟨i, hi, e⟩ := pi_at j hj
    have h1 := congrArg (fun u : List UInt64 => u.getD i 0) h
    simp only [pi_get _ i hi, e] at h1
    exact h1
theorem rho_inj (l m : List UInt64) (hl : l.length = 25) (hm : m.length = 25) (h : rho l = rho m) : l = m :=
  ext25 hl hm fun j hj => by
    have h1 := congrArg (fun u : List UInt64 => u.getD j 0) h
    simp only [rho_get l hl j hj, rho_get m hm j hj] at h1
    exact rotl_inj _ _ _ (turns_lt j hj) h1

theorem dbl (f : Nat → Nat → Bool) (s : Nat) (h : ∀ x z, f x z = (f (x + 4 * s) z ^^ f (x + s) (z + 63 * s))) (x z : Nat) : f x z = (f (x + 4 * (2 * s)) z ^^ f (x + 2 * s) (z + 63 * (2 * s))) := by
  rw [h x z, h (x + 4 * s) z, h (x + s) (z + 63 * s)]
  rw [show x + 4 * s + 4 * s = x + 4 * (2 * s) by omega, show x + 4 * s + s = x + s + 4 * s by omega, show x + s + s = x + 2 * s by omega, show z + 63 * s + 63 * s = z + 63 * (2 * s) by omega]
  cases f (x + 4 * (2 * s)) z <;> cases f (x + s + 4 * s) (z + 63 * s) <;> cases f (x + 2 * s) (z + 63 * (2 * s)) <;> rfl
theorem ring5 : ∀ a0 a1 a2 a3 a4 : Bool, a0 = (a1 ^^ a4) → a1 = (a2 ^^ a0) → a2 = (a3 ^^ a1) → a3 = (a4 ^^ a2) → a4 = (a0 ^^ a3) → a0 = false := by decide
/-- Columns' sums that are what their neighbours' sums make them are nought. -/
theorem cols_nought (E : Nat → UInt64) (h : ∀ x, x < 5 → E x = E ((x + 4) % 5) ^^^ rotl (E ((x + 1) % 5)) 1) : ∀ x, x < 5 → E x = 0 := by
  let f : Nat → Nat → Bool := fun x z => (E (x % 5)).toBitVec.getLsbD (z % 64)
  have fm : ∀ x x' z z', x % 5 = x' % 5 → z % 64 = z' % 64 → f x z = f x' z' := fun x x' z z' e1 e2 => by simp only [f, e1, e2]
  have h1 : ∀ x z, f x z = (f (x + 4 * 1) z ^^ f (x + 1) (z + 63 * 1)) := by
    intro x z
    have e := congrArg (fun u : UInt64 => u.toBitVec.getLsbD (z % 64)) (h (x % 5) (Nat.mod_lt _ (by decide)))
    simp only [bt_xor, bits_rotl _ 1 (by decide) _ (Nat.mod_lt _ (by decide : 0 < 64))] at e
    simp only [f]
    rw [e, show (x % 5 + 4) % 5 = (x + 4 * 1) % 5 by omega, show (x % 5 + 1) % 5 = (x + 1) % 5 by omega, show (z % 64 + (64 - 1)) % 64 = (z + 63 * 1) % 64 by omega]
  have h64 := dbl f 32 (dbl f 16 (dbl f 8 (dbl f 4 (dbl f 2 (dbl f 1 h1)))))
  have hr : ∀ x z, f x z = (f (x + 1) z ^^ f (x + 4) z) := fun x z => by
    rw [h64 x z, fm (x + 4 * (2 * 32)) (x + 1) z z (by omega) rfl, fm (x + 2 * 32) (x + 4) (z + 63 * (2 * 32)) z (by omega) (by omega)]
  intro x hx
  refine u_ext fun z hz => ?_
  have h0 : f x z = false := by
    have g : ∀ i, f (x + i) z = (f (x + (i + 1)) z ^^ f (x + (i + 4)) z) := fun i => hr (x + i) z
    have p : ∀ i k, i % 5 = k % 5 → f (x + i) z = f (x + k) z := fun i k e => fm _ _ _ _ (by omega) rfl
    refine ring5 (f x z) (f (x + 1) z) (f (x + 2) z) (f (x + 3) z) (f (x + 4) z) (g 0) ?_ ?_ ?_ ?_
    · rw [g 1, p (1 + 4) 0 rfl]; rfl
    · rw [g 2, p (2 + 4) 1 rfl]
    · rw [g 3, p (3 + 4) 2 rfl]
    · rw [g 4, p (4 + 1) 0 rfl, p (4 + 4) 3 rfl]; rfl
  simp only [f] at h0
  rw [Nat.mod_eq_of_lt hx, Nat.mod_eq_of_lt hz] at h0
  rw [h0]; simp
theorem theta_inj (l m : List UInt64) (hl : l.length = 25) (hm : m.length = 25) (h : theta l = theta m) : l = m := by
  have g : ∀ i, i < 25 → thT l i = thT m i := fun i hi => by
    have h1 := congrArg (fun u : List UInt64 => u.getD i 0) h
    simp only [theta_get l hl i hi, theta_get m hm i hi] at h1
    exact h1
  have hE : ∀ x, x < 5 → (thC l 5).getD x 0 ^^^ (thC m 5).getD x 0 = 0 := by
    refine cols_nought (fun x => (thC l 5).getD x 0 ^^^ (thC m 5).getD x 0) fun x hx => ?_
    refine u_ext fun z hz => ?_
    have b : ∀ y, y < 5 → ((l.getD (x + 5 * y) 0).toBitVec.getLsbD z ^^ (((thC l 5).getD ((x + 4) % 5) 0).toBitVec.getLsbD z ^^ (rotl ((thC l 5).getD ((x + 1) % 5) 0) 1).toBitVec.getLsbD z)) = ((m.getD (x + 5 * y) 0).toBitVec.getLsbD z ^^ (((thC m 5).getD ((x + 4) % 5) 0).toBitVec.getLsbD z ^^ (rotl ((thC m 5).getD ((x + 1) % 5) 0) 1).toBitVec.getLsbD z)) := by
      intro y hy
      have h1 := congrArg (fun u : UInt64 => u.toBitVec.getLsbD z) (g (x + 5 * y) (by omega))
      simp only [thT, bt_xor] at h1
      rwa [show (x + 5 * y) % 5 = x by omega] at h1
    have b0 := b 0 (by decide); have b1 := b 1 (by decide); have b2 := b 2 (by decide); have b3 := b 3 (by decide); have b4 := b 4 (by decide)
    simp only [Nat.mul_zero, Nat.add_zero, Nat.mul_one, show 5 * 2 = 10 from rfl, show 5 * 3 = 15 from rfl, show 5 * 4 = 20 from rfl] at b0 b1 b2 b3 b4
    rw [rotl_xor _ _ 1 (by decide)]
    simp only [bt_xor]
    rw [thC_get l 5 (Nat.le_refl _) x hx, thC_get m 5 (Nat.le_refl _) x hx]
    simp only [bt_xor]
    generalize ((thC l 5).getD ((x + 4) % 5) 0).toBitVec.getLsbD z = p at *
    generalize (rotl ((thC l 5).getD ((x + 1) % 5) 0) 1).toBitVec.getLsbD z = q at *
    generalize ((thC m 5).getD ((x + 4) % 5) 0).toBitVec.getLsbD z = r at *
    generalize (rotl ((thC m 5).getD ((x + 1) % 5) 0) 1).toBitVec.getLsbD z = s at *
    have mv : ∀ a c p q r s : Bool, (a ^^ (p ^^ q)) = (c ^^ (r ^^ s)) → c = (a ^^ (p ^^ q) ^^ (r ^^ s)) := by decide
    rw [mv _ _ _ _ _ _ b0, mv _ _ _ _ _ _ b1, mv _ _ _ _ _ _ b2, mv _ _ _ _ _ _ b3, mv _ _ _ _ _ _ b4]
    have fin : ∀ a0 a1 a2 a3 a4 p q r s : Bool, (a0 ^^ a1 ^^ a2 ^^ a3 ^^ a4 ^^ ((a0 ^^ (p ^^ q) ^^ (r ^^ s)) ^^ (a1 ^^ (p ^^ q) ^^ (r ^^ s)) ^^ (a2 ^^ (p ^^ q) ^^ (r ^^ s)) ^^ (a3 ^^ (p ^^ q) ^^ (r ^^ s)) ^^ (a4 ^^ (p ^^ q) ^^ (r ^^ s)))) = (p ^^ r ^^ (q ^^ s)) := by decide +kernel
    exact fin _ _ _ _ _ _ _ _ _
  have hC : ∀ x, x < 5 → (thC l 5).getD x 0 = (thC m 5).getD x 0 := fun x hx => by
    have e := hE x hx
    refine u_ext fun z _ => ?_
    have e1 := congrArg (fun u : UInt64 => u.toBitVec.getLsbD z) e
    simp only [bt_xor] at e1
    cases h1 : ((thC l 5).getD x 0).toBitVec.getLsbD z <;> cases h2 : ((thC m 5).getD x 0).toBitVec.getLsbD z <;> simp_all
  refine ext25 hl hm fun j hj => ?_
  have e := g j hj
  unfold thT at e
  rw [hC _ (Nat.mod_lt _ (by decide)), hC _ (Nat.mod_lt _ (by decide))] at e
  exact xor_inj _ _ _ e
theorem kround_inj (l m : List UInt64) (hl : l.length = 25) (hm : m.length = 25) (k : Nat) (h : kround l k = kround m k) : l = m :=
  theta_inj l m hl hm (rho_inj _ _ (by rw [theta_len, hl]) (by rw [theta_len, hm]) (pi_inj _ _ (by rw [rho_len, theta_len, hl]) (by rw [rho_len, theta_len, hm]) (chi_inj _ _ (pi_len _) (pi_len _) (iota_inj _ _ (by rw [chi_len, pi_len]) (by rw [chi_len, pi_len]) k h))))
theorem kfA_inj (l m : List UInt64) (hl : l.length = 25) (hm : m.length = 25) (k : Nat) : kfA l k = kfA m k → l = m := by
  induction k with
  | zero => intro h; exact h
  | succ k ih => intro h; rw [kfA, kfA] at h; exact ih (kround_inj _ _ (kfA_len l hl k) (kfA_len m hm k) k h)
theorem kf_inj (l m : List UInt64) (hl : l.length = 25) (hm : m.length = 25) : (kf l = kf m) ↔ (l = m) := ⟨kfA_inj l m hl hm 24, fun e => by rw [e]⟩

/-! ### How many bits are 1 -/
def xs (x : UInt64) : Nat → UInt64
  | 0 => x
  | k + 1 => xs x k / 2
def pc (x : UInt64) : Nat → Nat
  | 0 => 0
  | k + 1 => pc x k + (xs x k % 2).toNat
theorem xs_nat (x : UInt64) : ∀ k, (xs x k).toNat = x.toNat / 2 ^ k
  | 0 => by simp [xs]
  | k + 1 => by rw [xs, UInt64.toNat_div, xs_nat x k, Nat.pow_succ, ← Nat.div_div_eq_div_mul]; rfl
theorem xs_small (x : UInt64) (k : Nat) (h : 0 < (xs x k).toNat) : k < 64 := by
  rw [xs_nat] at h
  rcases Nat.lt_or_ge k 64 with h1 | h1
  · exact h1
  · have h2 : 2 ^ 64 ≤ 2 ^ k := Nat.pow_le_pow_right (by decide) h1
    have h3 : x.toNat < 2 ^ 64 := x.toNat_lt
    rw [Nat.div_eq_of_lt (by omega)] at h; omega
theorem pc_le (x : UInt64) : ∀ k, pc x k ≤ k
  | 0 => Nat.le_refl _
  | k + 1 => by
    have := pc_le x k
    have h : (xs x k % 2).toNat < 2 := by rw [UInt64.toNat_mod]; exact Nat.mod_lt _ (by decide)
    simp only [pc]; omega
theorem pc_end (x : UInt64) (k : Nat) (h : (xs x k).toNat = 0) : ∀ d, pc x (k + d) = pc x k ∧ (xs x (k + d)).toNat = 0
  | 0 => ⟨rfl, h⟩
  | d + 1 => by
    obtain ⟨h1, h2⟩ := pc_end x k h d
    have h3 : (xs x (k + d) % 2).toNat = 0 := by rw [UInt64.toNat_mod, h2]; rfl
    refine ⟨?_, ?_⟩
    · show pc x (k + d) + (xs x (k + d) % 2).toNat = pc x k
      rw [h1, h3]; rfl
    · show (xs x (k + d) / 2).toNat = 0
      rw [UInt64.toNat_div, h2]; rfl
theorem pc_done (x : UInt64) (k : Nat) (hk : k ≤ 64) (h : ¬ 0 < (xs x k).toNat) : pc x k = pc x 64 := by
  have := (pc_end x k (by omega) (64 - k)).1
  rw [show k + (64 - k) = 64 by omega] at this
  exact this.symm
def sB (f : Nat → Bool) : Nat → Nat
  | 0 => 0
  | k + 1 => sB f k + (f k).toNat
theorem sB_congr {f g : Nat → Bool} : ∀ k, (∀ i, i < k → f i = g i) → sB f k = sB g k
  | 0, _ => rfl
  | k + 1, h => by rw [sB, sB, sB_congr k (fun i hi => h i (by omega)), h k (by omega)]
theorem sB_add (f : Nat → Bool) (a : Nat) : ∀ b, sB f (a + b) = sB f a + sB (fun i => f (a + i)) b
  | 0 => rfl
  | b + 1 => by show sB f (a + b) + (f (a + b)).toNat = _; rw [sB_add f a b]; simp only [sB]; omega
theorem pc_sB (x : UInt64) : ∀ k, k ≤ 64 → pc x k = sB (fun i => x.toBitVec.getLsbD i) k
  | 0, _ => rfl
  | k + 1, h => by
    rw [pc, sB, pc_sB x k (by omega)]
    congr 1
    rw [UInt64.toNat_mod, xs_nat]
    show x.toNat / 2 ^ k % 2 = _
    rw [show x.toBitVec.getLsbD k = x.toNat.testBit k from rfl, Nat.testBit, Nat.shiftRight_eq_div_pow]
    rw [Nat.one_and_eq_mod_two]
    rcases Nat.mod_two_eq_zero_or_one (x.toNat / 2 ^ k) with e | e <;> rw [e] <;> rfl
theorem pc_rotl (x : UInt64) (k : Nat) (hk : k < 64) : pc (rotl x k) 64 = pc x 64 := by
  rw [pc_sB _ 64 (Nat.le_refl _), pc_sB _ 64 (Nat.le_refl _)]
  rw [sB_congr (g := fun i => x.toBitVec.getLsbD ((i + (64 - k)) % 64)) 64 (fun i hi => bits_rotl x k hk i hi)]
  have h1 := sB_add (fun i => x.toBitVec.getLsbD ((i + (64 - k)) % 64)) k (64 - k)
  have h2 := sB_add (fun i => x.toBitVec.getLsbD i) (64 - k) k
  rw [show k + (64 - k) = 64 by omega] at h1
  rw [show 64 - k + k = 64 by omega] at h2
  rw [h1, h2, sB_congr (g := fun i => x.toBitVec.getLsbD (64 - k + i)) k (fun i hi => by rw [show (i + (64 - k)) % 64 = 64 - k + i by omega]),
    sB_congr (f := fun i => x.toBitVec.getLsbD ((k + i + (64 - k)) % 64)) (g := fun i => x.toBitVec.getLsbD i) (64 - k) (fun i hi => by rw [show (k + i + (64 - k)) % 64 = i by omega])]
  omega
def onesA (l : List UInt64) : Nat → Nat
  | 0 => 0
  | i + 1 => onesA l i + pc (l.getD i 0) 64
def onesL (l : List UInt64) : Nat := onesA l 25
theorem onesA_le (l : List UInt64) : ∀ i, onesA l i ≤ 64 * i
  | 0 => Nat.le_refl _
  | i + 1 => by have := onesA_le l i; have := pc_le (l.getD i 0) 64; simp only [onesA]; omega
theorem onesA_congr (l m : List UInt64) : ∀ i, (∀ j, j < i → pc (l.getD j 0) 64 = pc (m.getD j 0) 64) → onesA l i = onesA m i
  | 0, _ => rfl
  | i + 1, h => by rw [onesA, onesA, onesA_congr l m i (fun j hj => h j (by omega)), h i (by omega)]
theorem ones_rho (l : List UInt64) (hl : l.length = 25) : onesL (rho l) = onesL l :=
  onesA_congr _ _ 25 fun j hj => by rw [rho_get l hl j hj, pc_rotl _ _ (turns_lt j hj)]
theorem ones_pi (l : List UInt64) : onesL (pi l) = onesL l := by
  have g : ∀ j, j < 25 → pc ((pi l).getD j 0) 64 = pc (l.getD ((j % 5 + 3 * (j / 5)) % 5 + 5 * (j % 5)) 0) 64 := fun j hj => by rw [pi_get l j hj]
  unfold onesL
  simp only [onesA]
  rw [g 0 (by decide), g 1 (by decide), g 2 (by decide), g 3 (by decide), g 4 (by decide), g 5 (by decide), g 6 (by decide), g 7 (by decide), g 8 (by decide), g 9 (by decide), g 10 (by decide), g 11 (by decide), g 12 (by decide), g 13 (by decide), g 14 (by decide), g 15 (by decide), g 16 (by decide), g 17 (by decide), g 18 (by decide), g 19 (by decide), g 20 (by decide), g 21 (by decide), g 22 (by decide), g 23 (by decide), g 24 (by decide)]
  simp only [Nat.reduceMod, Nat.reduceDiv, Nat.reduceMul, Nat.reduceAdd]
  omega
theorem nought_stays : chi (pi (rho (theta (List.replicate 25 0)))) = List.replicate 25 0 := by decide +kernel
end Go.Rx
