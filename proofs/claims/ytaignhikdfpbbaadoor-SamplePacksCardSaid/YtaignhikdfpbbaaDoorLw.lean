/- Plain laws of layer 12: what the statements' first look sees, coefficients one by one. -/
import Derived.Test.YtaignhikdfpbbaaDoorRp
import Derived.Test.YtaignhikdfpbbaaDoorAw
namespace Go.Rx
def thrA : Nat → List UInt8
  | 0 => List.replicate 128 0
  | i + 1 => (thrA i).set i 3
theorem thrA_len : ∀ i, (thrA i).length = 128
  | 0 => List.length_replicate
  | i + 1 => by rw [thrA, List.length_set]; exact thrA_len i
theorem noA_get (eta : Nat) (b : List UInt8) : ∀ i k, i ≤ 256 → k < i → (noA eta b i).getD k 0 = ((zsub ((onesN b (2 * k * eta) eta : Nat) : Int) ((onesN b (2 * k * eta + eta) eta : Nat) : Int) : Nat) : Int)
  | 0, k, _, h => by omega
  | i + 1, k, hi, h => by
    rw [noA, getD_set_eq _ _ _ _ _ (by rw [noA_len]; omega)]
    by_cases e : i = k
    · subst e; rw [if_pos rfl]
    · rw [if_neg e]; exact noA_get eta b i k (by omega) (by omega)
theorem unA_get (d : Nat) (b : List UInt8) : ∀ i k, i ≤ 256 → k < i → (unA d b i).getD k 0 = ((zmod ((btA b (d * k) d : Nat) : Int) : Nat) : Int)
  | 0, k, _, h => by omega
  | i + 1, k, hi, h => by
    rw [unA, getD_set_eq _ _ _ _ _ (by rw [unA_len]; omega)]
    by_cases e : i = k
    · subst e; rw [if_pos rfl]
    · rw [if_neg e]; exact unA_get d b i k (by omega) (by omega)
theorem sqA_get (d : Int) (p : List Int) (hp : p.length = 256) : ∀ i k, i ≤ 256 → (sqA d p i).getD k 0 = if k < i then ((zcompZ d (p.getD k 0) : Nat) : Int) else p.getD k 0
  | 0, k, _ => by rw [sqA, if_neg (by omega)]
  | i + 1, k, hi => by
    rw [sqA, getD_set_eq _ _ _ _ _ (by rw [sqA_len]; omega), sqA_get d p hp i i (by omega), sqA_get d p hp i k (by omega), if_neg (Nat.lt_irrefl i)]
    by_cases e : i = k
    · subst e; rw [if_pos rfl, if_pos (by omega)]
    · rw [if_neg e]; by_cases e2 : k < i
      · rw [if_pos e2, if_pos (by omega)]
      · rw [if_neg e2, if_neg (by omega)]
theorem spA_get (d : Int) (p : List Int) (hp : p.length = 256) : ∀ i k, i ≤ 256 → (spA d p i).getD k 0 = if k < i then ((zdecZ d (p.getD k 0) : Nat) : Int) else p.getD k 0
  | 0, k, _ => by rw [spA, if_neg (by omega)]
  | i + 1, k, hi => by
    rw [spA, getD_set_eq _ _ _ _ _ (by rw [spA_len]; omega), spA_get d p hp i i (by omega), spA_get d p hp i k (by omega), if_neg (Nat.lt_irrefl i)]
    by_cases e : i = k
    · subst e; rw [if_pos rfl, if_pos (by omega)]
    · rw [if_neg e]; by_cases e2 : k < i
      · rw [if_pos e2, if_pos (by omega)]
      · rw [if_neg e2, if_neg (by omega)]
theorem rej_keep (c : Int) (s : List Int × Nat) (k : Nat) (h : k < s.2) : (rej c s).1.getD k 0 = s.1.getD k 0 ∧ k < (rej c s).2 := by
  unfold rej
  split
  · refine ⟨?_, by show k < s.2 + 1; omega⟩
    simp only [List.getD_eq_getElem?_getD, List.getElem?_set]
    rw [if_neg (by omega)]
  · exact ⟨rfl, h⟩
theorem rjB_keep (b : List UInt8) (s : List Int × Nat) (k i : Nat) (h : k < (rjB b s i).2) : ∀ m, (rjB b s (i + m)).1.getD k 0 = (rjB b s i).1.getD k 0 ∧ k < (rjB b s (i + m)).2
  | 0 => ⟨rfl, h⟩
  | m + 1 => by
    obtain ⟨h1, h2⟩ := rjB_keep b s k i h m
    rw [← Nat.add_assoc, rjB_step]
    have g1 := rej_keep ((loB b (i + m) : Nat) : Int) _ k h2
    have g2 := rej_keep ((hiB b (i + m) : Nat) : Int) _ k g1.2
    exact ⟨by rw [g2.1, g1.1, h1], g2.2⟩
theorem unU_keep (c : Nat → List UInt8) (k i : Nat) (h : k < (unU c i).2) : ∀ m, (unU c (i + m)).1.getD k 0 = (unU c i).1.getD k 0 ∧ k < (unU c (i + m)).2
  | 0 => ⟨rfl, h⟩
  | m + 1 => by
    obtain ⟨h1, h2⟩ := unU_keep c k i h m
    rw [← Nat.add_assoc, unU]
    have g := rjB_keep (c (i + m)) (unU c (i + m)) k 0 (by rw [rjB]; exact h2) 56
    rw [rjB, Nat.zero_add] at g
    exact ⟨by rw [g.1, h1], g.2⟩
set_option maxRecDepth 100000
theorem chA_lo : loB (ch (absR 168 31 noughts []) 0) 0 = 3199 := by rw [ch, fpow, abs_168_31]; kernel_rfl
theorem uni_nil : (uni []).getD 0 0 = 3199 := by
  have h0 : rej ((loB (ch (absR 168 31 noughts []) 0) 0 : Nat) : Int) (zero256, 0) = (zero256.set 0 3199, 1) := by
    rw [chA_lo, rej_t _ _ (by decide) (by show (0 : Nat) < 256; omega)]; rfl
  have hz : (zero256.set 0 3199).getD 0 0 = 3199 := by kernel_rfl
  have h1 := rej_keep ((hiB (ch (absR 168 31 noughts []) 0) 0 : Nat) : Int) (zero256.set 0 3199, 1) 0 (by show (0 : Nat) < 1; omega)
  generalize hc : ch (absR 168 31 noughts []) = c at *
  have h2 : rjB (c 0) (zero256, 0) 1 = rej ((hiB (c 0) 0 : Nat) : Int) (zero256.set 0 3199, 1) := by rw [← h0, show (1 : Nat) = 0 + 1 from rfl, rjB_step, rjB]
  have h3 := rjB_keep (c 0) (zero256, 0) 0 1 (by rw [h2]; exact h1.2) 55
  have h4 : unU c 1 = rjB (c 0) (zero256, 0) (1 + 55) := by rw [show (1 : Nat) = 0 + 1 from rfl, unU, unU]
  have h5 := unU_keep c 0 1 (by rw [h4]; exact h3.2) 23
  have h6 : uni [] = (unU c (1 + 23)).1 := by rw [uni, uniN, hc]
  have h7 : (zero256.set 0 3199, 1).1.getD 0 0 = (zero256.set 0 (3199 : Int)).getD 0 0 := rfl
  rw [h6, h5.1, h4, h3.1, h2, h1.1, h7, hz]
theorem aw12_u : uni [] ≠ zero256 := fun h => by
  have h1 := uni_nil
  have h2 : zero256.getD 0 0 = (0 : Int) := by kernel_rfl
  rw [h, h2] at h1; exact absurd h1 (by decide)
def absE (r : Nat) (s : UInt8) (b : List UInt8) : List UInt64 := kf (lay noughts (lastB r s b))
theorem lay_136_31_1 : lay noughts (lastB 136 31 [1]) = ([7937, 0, 0, 0, 0, 0, 0, 0, 0, 0, 0, 0, 0, 0, 0, 0, 9223372036854775808, 0, 0, 0, 0, 0, 0, 0, 0] : List UInt64) := by kernel_rfl
theorem back_map12 (l m : List UInt64) (h : l.length = 25) (e : (nkf (l.map (·.toNat))).map UInt64.ofNat = m) : kf l = m := by
  rw [← e, nkf_eq l h, List.map_map]
  have : (UInt64.ofNat ∘ fun x : UInt64 => x.toNat) = id := by funext x; exact UInt64.ofNat_toNat
  rw [this, List.map_id]
theorem prf_ev : prfB (2 : Int) [] 1 = tk ((nkf (([7937, 0, 0, 0, 0, 0, 0, 0, 0, 0, 0, 0, 0, 0, 0, 0, 9223372036854775808, 0, 0, 0, 0, 0, 0, 0, 0] : List UInt64).map (·.toNat))).map UInt64.ofNat) 128 := by
  have e1 : ([[], [1]] : List (List UInt8)).flatten = [1] := rfl
  have e2 : (64 * (2 : Int)).toNat = 128 := rfl
  rw [prfB, e1, e2, sqz_small _ _ _ (by omega), absR_end _ _ _ _ (by omega) (by decide), lay_136_31_1]
  rw [back_map12 _ _ (by rfl) rfl]
theorem prf_at : (noA 2 (prfB (2 : Int) [] 1) 256).getD 0 0 = 3328 := by
  rw [noA_get _ _ 256 0 (by omega) (by omega), prf_ev]; kernel_rfl
theorem aw12_x : noA 2 (prfB (2 : Int) [] 1) 256 ≠ zero256 := fun h => by
  have h1 := prf_at
  have h2 : zero256.getD 0 0 = (0 : Int) := by kernel_rfl
  rw [h, h2] at h1; exact absurd h1 (by decide)
theorem aw12_p0 : (noA 2 (thrA 128) 256).getD 0 0 = 2 := by rw [noA_get _ _ 256 0 (by omega) (by omega)]; kernel_rfl
theorem aw12_p1 : (noA 2 (thrA 128) 256).getD 1 0 = 0 := by rw [noA_get _ _ 256 1 (by omega) (by omega)]; kernel_rfl
theorem aw12_q0 : (unA 1 ((thrA 128).take 32) 256).getD 0 0 = 1 := by rw [unA_get _ _ 256 0 (by omega) (by omega)]; kernel_rfl
theorem aw12_q1 : (unA 1 ((thrA 128).take 32) 256).getD 1 0 = 1 := by rw [unA_get _ _ 256 1 (by omega) (by omega)]; kernel_rfl
theorem aw12_q2 : (unA 1 ((thrA 128).take 32) 256).getD 2 0 = 0 := by rw [unA_get _ _ 256 2 (by omega) (by omega)]; kernel_rfl
theorem aw12_s (p : List Int) (hp : p.length = 256) (h : p.getD 0 0 = 1665) : (sqA 1 p 256).getD 0 0 = 1 := by rw [sqA_get 1 p hp 256 0 (by omega), if_pos (by omega), h]; kernel_rfl
theorem aw12_t (p : List Int) (hp : p.length = 256) (h : p.getD 0 0 = 1) : (spA 1 p 256).getD 0 0 = 1665 := by rw [spA_get 1 p hp 256 0 (by omega), if_pos (by omega), h]; kernel_rfl
end Go.Rx
