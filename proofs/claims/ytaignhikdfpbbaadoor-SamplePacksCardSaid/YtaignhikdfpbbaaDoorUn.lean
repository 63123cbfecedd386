/- Plain functions: a polynomial of a seed, by what is refused. -/
import Derived.Test.YtaignhikdfpbbaaDoorSm
namespace Go.Rx
def ch (A : List UInt64) (k : Nat) : List UInt8 := tk (fpow A k) 168
theorem ch_len (A : List UInt64) (k : Nat) : (ch A k).length = 168 := tk_len _ _ (by omega)
theorem ch_ref (A : List UInt64) (k : Nat) : (rby (fpow A k)).take 168 = ch A k := by rw [rby_eq]; rfl
def xU (A : List UInt64) : Nat → List UInt64 × List UInt8
  | 0 => (A, tk A 168)
  | k + 1 => (fpow A k, [])
theorem xU_0 (A : List UInt64) : xU A 0 = (A, tk A 168) := by rw [xU]
theorem xU_s (A : List UInt64) (k : Nat) : xU A (k + 1) = (fpow A k, []) := by rw [xU]
theorem xU_len (A : List UInt64) (hA : A.length = 25) : ∀ k, (xU A k).1.length = 25
  | 0 => by rw [xU_0]; exact hA
  | k + 1 => by rw [xU_s]; exact fpow_len A hA k
theorem xU_le (A : List UInt64) : ∀ k, (xU A k).2.length ≤ 200
  | 0 => by have h := tk_len A 168 (by omega); rw [xU_0]; generalize tk A 168 = l at *; dsimp only; omega
  | k + 1 => by rw [xU_s]; dsimp only [List.length_nil]; omega
theorem xr_all (r N : Nat) (hr : 1 ≤ r ∧ r ≤ 200) (hN : 1 ≤ N) (B : List UInt64) (l : List UInt8) (hl : l.length = N) : xrun r N (B, l, []) = (B, [], l) := by
  have e1 : N - ([] : List UInt8).length = N := rfl
  rw [xrun_old r N hr (B, l, []) (by show 0 < N; omega) (by show ¬ l.length = 0; omega)]
  show xrun r N (B, l.drop (min (N - ([] : List UInt8).length) l.length), [] ++ l.take (min (N - ([] : List UInt8).length) l.length)) = _
  rw [e1, hl, Nat.min_self, List.drop_of_length_le (by omega), List.take_of_length_le (by omega), List.nil_append]
  exact xrun_done _ _ _ (by show ¬ l.length < N; omega)
theorem xr_fresh (r : Nat) (hr : 1 ≤ r ∧ r ≤ 200) (B : List UInt64) : xrun r r (B, [], []) = (kf B, [], tk (kf B) r) := by
  have e1 : r - ([] : List UInt8).length = r := rfl
  have hl := tk_len (kf B) r hr.2
  rw [xrun_new r r hr (B, [], []) (by show 0 < r; omega) rfl]
  show xrun r r (kf B, (tk (kf B) r).drop (min (r - ([] : List UInt8).length) (tk (kf B) r).length), [] ++ (tk (kf B) r).take (min (r - ([] : List UInt8).length) (tk (kf B) r).length)) = _
  generalize tk (kf B) r = l at *
  generalize kf B = C at *
  rw [e1, hl, Nat.min_self, List.drop_of_length_le (by omega), List.take_of_length_le (by omega), List.nil_append]
  exact xrun_done _ _ _ (by show ¬ l.length < r; omega)
theorem xU_run (A : List UInt64) (hA : A.length = 25) : ∀ k, xrun 168 (168 : Int).toNat ((xU A k).1, (xU A k).2, []) = (fpow A k, [], ch A k)
  | 0 => by
    have h := xr_all 168 168 (by omega) (by omega) A (tk A 168) (tk_len _ _ (by omega))
    have e : (168 : Int).toNat = 168 := rfl
    rw [e, xU_0, ch, fpow]; generalize tk A 168 = l at *; exact h
  | k + 1 => by
    have h := xr_fresh 168 (by omega) (fpow A k)
    have e : (168 : Int).toNat = 168 := rfl
    rw [fpow_succ A hA k] at h
    rw [e, xU_s, ch]; generalize fpow A (k + 1) = B at *; exact h
theorem xU_sa (A : List UInt64) (hA : A.length = 25) (k : Nat) : (xrun 168 (168 : Int).toNat ((xU A k).1, (xU A k).2, [])).1 = (xU A (k + 1)).1 := by rw [xU_run A hA]; rfl
theorem xU_sl (A : List UInt64) (hA : A.length = 25) (k : Nat) : (xrun 168 (168 : Int).toNat ((xU A k).1, (xU A k).2, [])).2.1 = (xU A (k + 1)).2 := by rw [xU_run A hA]; rfl
theorem xU_out (A : List UInt64) (hA : A.length = 25) (k : Nat) : (xrun 168 (168 : Int).toNat ((xU A k).1, (xU A k).2, [])).2.2 = ch A k := by rw [xU_run A hA]
/-- One candidate, taken or not. -/
def rej (c : Int) (s : List Int × Nat) : List Int × Nat := if c < 3329 ∧ s.2 < 256 then (s.1.set s.2 c, s.2 + 1) else s
theorem rej_len (c : Int) (s : List Int × Nat) (h : s.1.length = 256) : (rej c s).1.length = 256 := by unfold rej; split; rw [List.length_set]; exact h; exact h
theorem rej_le (c : Int) (s : List Int × Nat) (h : s.2 ≤ 256) : (rej c s).2 ≤ 256 := by unfold rej; split; show s.2 + 1 ≤ 256; omega; exact h
theorem rej_full (c : Int) (s : List Int × Nat) (h : s.2 = 256) : rej c s = s := by unfold rej; rw [if_neg (by omega)]
theorem rej_t (c : Int) (s : List Int × Nat) (h1 : c < 3329) (h2 : s.2 < 256) : rej c s = (s.1.set s.2 c, s.2 + 1) := by unfold rej; rw [if_pos ⟨h1, h2⟩]
theorem rej_f (c : Int) (s : List Int × Nat) (h1 : ¬ c < 3329) : rej c s = s := by unfold rej; rw [if_neg (fun h => h1 h.1)]
def rjC (q : List Int) (s : List Int × Nat) : Nat → List Int × Nat
  | 0 => s
  | j + 1 => rej (q.getD j 0) (rjC q s j)
def loB (b : List UInt8) (i : Nat) : Nat := (b.getD (3 * i) 0).toNat ||| (b.getD (3 * i + 1) 0 &&& 15).toNat * 2 ^ 8
def hiB (b : List UInt8) (i : Nat) : Nat := (b.getD (3 * i + 1) 0 >>> UInt8.ofNat 4).toNat ||| (b.getD (3 * i + 2) 0).toNat * 2 ^ 4
def pcd (b : List UInt8) (i : Nat) : List Int := [((loB b i : Nat) : Int), ((hiB b i : Nat) : Int)]
theorem pcd_len (b : List UInt8) (i : Nat) : (pcd b i).length = 2 := rfl
theorem rjC_two (b : List UInt8) (i : Nat) (s : List Int × Nat) : rjC (pcd b i) s 2 = rej ((hiB b i : Nat) : Int) (rej ((loB b i : Nat) : Int) s) := by
  have e1 : (pcd b i).getD 0 0 = ((loB b i : Nat) : Int) := rfl
  have e2 : (pcd b i).getD 1 0 = ((hiB b i : Nat) : Int) := rfl
  rw [rjC, rjC, rjC, e1, e2]
def rjB (b : List UInt8) (s : List Int × Nat) : Nat → List Int × Nat
  | 0 => s
  | i + 1 => rjC (pcd b i) (rjB b s i) 2
theorem rjB_step (b : List UInt8) (s : List Int × Nat) (i : Nat) : rjB b s (i + 1) = rej ((hiB b i : Nat) : Int) (rej ((loB b i : Nat) : Int) (rjB b s i)) := by rw [rjB, rjC_two]
theorem rjB_len (b : List UInt8) (s : List Int × Nat) (h : s.1.length = 256) : ∀ i, (rjB b s i).1.length = 256
  | 0 => h
  | i + 1 => by rw [rjB_step]; exact rej_len _ _ (rej_len _ _ (rjB_len b s h i))
theorem rjB_le (b : List UInt8) (s : List Int × Nat) (h : s.2 ≤ 256) : ∀ i, (rjB b s i).2 ≤ 256
  | 0 => h
  | i + 1 => by rw [rjB_step]; exact rej_le _ _ (rej_le _ _ (rjB_le b s h i))
theorem rjB_full (b : List UInt8) (s : List Int × Nat) (h : s.2 = 256) : ∀ i, rjB b s i = s
  | 0 => rfl
  | i + 1 => by rw [rjB_step, rjB_full b s h i, rej_full _ _ h, rej_full _ _ h]
theorem rjB_add (b : List UInt8) (s : List Int × Nat) (i : Nat) (h : (rjB b s i).2 = 256) : ∀ m, rjB b s (i + m) = rjB b s i
  | 0 => rfl
  | m + 1 => by rw [← Nat.add_assoc, rjB_step, rjB_add b s i h m, rej_full _ _ h, rej_full _ _ h]
def unU (c : Nat → List UInt8) : Nat → List Int × Nat
  | 0 => (zero256, 0)
  | k + 1 => rjB (c k) (unU c k) 56
theorem unU_len (c : Nat → List UInt8) : ∀ k, (unU c k).1.length = 256
  | 0 => List.length_replicate
  | k + 1 => by rw [unU]; exact rjB_len _ _ (unU_len c k) _
theorem unU_le (c : Nat → List UInt8) : ∀ k, (unU c k).2 ≤ 256
  | 0 => by show (0 : Nat) ≤ 256; omega
  | k + 1 => by rw [unU]; exact rjB_le _ _ (unU_le c k) _
theorem unU_add (c : Nat → List UInt8) (k : Nat) (h : (unU c k).2 = 256) : ∀ m, unU c (k + m) = unU c k
  | 0 => rfl
  | m + 1 => by rw [← Nat.add_assoc, unU, unU_add c k h m]; exact rjB_full _ _ h _
theorem unU_fin (c : Nat → List UInt8) (k : Nat) (hk : k ≤ 24) (h : k = 24 ∨ (unU c k).2 = 256) : unU c k = unU c 24 := by
  rcases h with h | h
  · rw [h]
  · have := unU_add c k h (24 - k); rw [show k + (24 - k) = 24 by omega] at this; exact this.symm
theorem unU_end (c : Nat → List UInt8) (k i : Nat) (h : i = 56 ∨ (rjB (c k) (unU c k) i).2 = 256) (hi : i ≤ 56) : rjB (c k) (unU c k) i = unU c (k + 1) := by
  rw [unU]
  rcases h with h | h
  · rw [h]
  · have := rjB_add (c k) (unU c k) i h (56 - i); rw [show i + (56 - i) = 56 by omega] at this; exact this.symm
/-- The polynomial of a seed. -/
def uniN (n : Nat) (seed : List UInt8) : List Int := (unU (ch (absR 168 31 noughts seed)) n).1
theorem uniN_len (n : Nat) (seed : List UInt8) : (uniN n seed).length = 256 := by rw [uniN]; exact unU_len _ n
def uni (seed : List UInt8) : List Int := uniN 24 seed
theorem uni_len (seed : List UInt8) : (uni seed).length = 256 := by rw [uni]; exact uniN_len 24 seed
theorem uni_of (seed : List UInt8) (A : List UInt64) (hA : absR 168 31 noughts seed = A) (k : Nat) (hk : k ≤ 24) (s : List Int × Nat) (h : s = unU (ch A) k) (hf : k = 24 ∨ s.2 = 256) : s.1 = uni seed := by
  rw [uni, uniN, hA, h, unU_fin (ch A) k hk (by rw [← h]; exact hf)]
theorem u8_mask15 (x : UInt8) : (x &&& 15).toNat = x.toNat % 16 := by
  rw [UInt8.toNat_and, show (15 : UInt8).toNat = 2 ^ 4 - 1 from rfl, Nat.and_two_pow_sub_one_eq_mod]
theorem u8_shr4 (x : UInt8) : (x >>> UInt8.ofNat 4).toNat = x.toNat / 16 := by
  rw [UInt8.toNat_shiftRight, show (UInt8.ofNat 4).toNat % 8 = 4 from rfl, Nat.shiftRight_eq_div_pow]
theorem lo_eq (b : List UInt8) (i : Nat) : loB b i = (b.getD (3 * i) 0).toNat + 256 * ((b.getD (3 * i + 1) 0).toNat % 16) := by
  have h := (b.getD (3 * i) 0).toNat_lt
  rw [loB, u8_mask15, Nat.or_comm, Nat.mul_comm, ← Nat.two_pow_add_eq_or_of_lt (by simpa using h)]; omega
theorem hi_eq (b : List UInt8) (i : Nat) : hiB b i = (b.getD (3 * i + 1) 0).toNat / 16 + 16 * (b.getD (3 * i + 2) 0).toNat := by
  have h := (b.getD (3 * i + 1) 0).toNat_lt
  rw [hiB, u8_shr4, Nat.or_comm, Nat.mul_comm, ← Nat.two_pow_add_eq_or_of_lt (by omega)]; omega
theorem lo_lt (b : List UInt8) (i : Nat) : loB b i ≤ 4095 := by
  have h := (b.getD (3 * i) 0).toNat_lt; rw [lo_eq]; omega
theorem hi_lt (b : List UInt8) (i : Nat) : hiB b i ≤ 4095 := by
  have h := (b.getD (3 * i + 1) 0).toNat_lt; have h2 := (b.getD (3 * i + 2) 0).toNat_lt; rw [hi_eq]; omega
end Go.Rx
