/- Texts of this claim, one behind the other: Se, Q5, Sx, Sm, RxJ, RxK, RxL, S1, Un, S2, Rp, RxM, RxN, Nv, Kp, RxT, M1. -/
import Derived.Test.YtaignhikdfpbbaaGreatDoorKb2
import Derived.Test.YtaignhikdfpbbaaGreatDoorKb1
import Derived.Laws.ResultCell
import Derived.Great.BuildSlice
set_option linter.unusedVariables false
set_option linter.unusedSimpArgs false
/- The document's sponge is the program's. -/
namespace Go.Rx
set_option maxHeartbeats 400000
theorem rby_eq (p : List UInt64) : rby p = tkA p 25 := rbA_eq p 25
theorem getD_map_oob {α : Type} (l : List α) (i : Nat) (d : α) (h : l.length ≤ i) : l.getD i d = d := by simp [List.getD, List.getElem?_eq_none h]
theorem tkA_get (p : List UInt64) : ∀ (k i : Nat), i < 8 * k → (tkA p k).getD i 0 = byt (p.getD (i / 8) 0) (i % 8)
  | 0, i, h => by omega
  | k + 1, i, h => by
    rw [tkA, List.getD_eq_getElem?_getD]
    have hl := tkA_len p k
    rcases Nat.lt_or_ge i (8 * k) with h1 | h1
    · rw [List.getElem?_append_left (by omega), ← List.getD_eq_getElem?_getD]; exact tkA_get p k i h1
    · rw [List.getElem?_append_right (by omega), hl, ← List.getD_eq_getElem?_getD, st8_get _ _ (by omega)]
      congr 1
      · congr 1; omega
      · omega
/-- A word's bits by its bytes. -/
theorem byt_bit (x : UInt64) (k j : Nat) (hk : k < 8) (hj : j < 8) : (byt x k).toNat.testBit j = x.toNat.testBit (8 * k + j) := by
  rw [byt_toNat x k hk, show (256 : Nat) = 2 ^ 8 from rfl, ← Nat.pow_mul, Nat.testBit_mod_two_pow, Nat.testBit_div_two_pow]
  simp [hj, Nat.add_comm]
theorem word_ext (x y : UInt64) (h : ∀ k, k < 8 → byt x k = byt y k) : x = y := by
  apply UInt64.toNat_inj.1
  apply Nat.eq_of_testBit_eq
  intro i
  rcases Nat.lt_or_ge i 64 with hi | hi
  · have e := congrArg (fun b : UInt8 => b.toNat.testBit (i % 8)) (h (i / 8) (by omega))
    rw [byt_bit x (i / 8) (i % 8) (by omega) (by omega), byt_bit y (i / 8) (i % 8) (by omega) (by omega), show 8 * (i / 8) + i % 8 = i by omega] at e
    exact e
  · have p2 : (2 : Nat) ^ 64 ≤ 2 ^ i := Nat.pow_le_pow_right (by omega) hi
    have hx := x.toNat_lt; have hy := y.toNat_lt
    rw [Nat.testBit_lt_two_pow (by omega), Nat.testBit_lt_two_pow (by omega)]
theorem byt_xor (x y : UInt64) (k : Nat) (hk : k < 8) : byt (x ^^^ y) k = byt x k ^^^ byt y k := by
  apply UInt8.toNat_inj.1
  apply Nat.eq_of_testBit_eq
  intro j
  rcases Nat.lt_or_ge j 8 with hj | hj
  · rw [byt_bit _ k j hk hj, UInt64.toNat_xor, Nat.testBit_xor, UInt8.toNat_xor, Nat.testBit_xor, byt_bit _ k j hk hj, byt_bit _ k j hk hj]
  · have p2 : (2 : Nat) ^ 8 ≤ 2 ^ j := Nat.pow_le_pow_right (by omega) hj
    have h1 := (byt (x ^^^ y) k).toNat_lt; have h2 := (byt x k ^^^ byt y k).toNat_lt
    rw [Nat.testBit_lt_two_pow (by omega), Nat.testBit_lt_two_pow (by omega)]
/-- A number by its bytes, the lowest first. -/
def ldN : List UInt8 → Nat
  | [] => 0
  | c :: r => c.toNat + 256 * ldN r
theorem ldN_lt : ∀ l : List UInt8, ldN l < 256 ^ l.length
  | [] => by simp [ldN]
  | c :: r => by
    have h1 := c.toNat_lt; have h2 := ldN_lt r
    rw [ldN, List.length_cons, Nat.pow_succ]; omega
theorem pow_le8 (n : Nat) (h : n ≤ 8) : 256 ^ n ≤ 18446744073709551616 := by
  have := Nat.pow_le_pow_right (n := 256) (by omega) h
  simpa using this
theorem ldR_nat : ∀ l : List UInt8, l.length ≤ 8 → (ldR l).toNat = ldN l
  | [], _ => rfl
  | c :: r, h => by
    rw [List.length_cons] at h
    have h1 := c.toNat_lt; have h2 := ldN_lt r; have h3 := pow_le8 (r.length + 1) h
    rw [Nat.pow_succ] at h3
    rw [ldR, ldN, UInt64.toNat_add, UInt64.toNat_mul, ldR_nat r (by omega)]
    show (ldN r * 256 % 18446744073709551616 + c.toUInt64.toNat) % 18446744073709551616 = _
    rw [UInt8.toNat_toUInt64]
    omega
theorem ldN_app : ∀ (l : List UInt8) (c : UInt8), ldN (l ++ [c]) = ldN l + 256 ^ l.length * c.toNat
  | [], c => by simp [ldN]
  | d :: r, c => by rw [List.cons_append, ldN, ldN_app r c, ldN, List.length_cons, Nat.pow_succ, Nat.mul_add, ← Nat.mul_assoc, Nat.mul_comm 256 (256 ^ r.length)]; omega
theorem ldA_nat (b : List UInt8) : ∀ k, k ≤ b.length → k ≤ 8 → (ldA b k).toNat = ldN (b.take k)
  | 0, _, _ => by simp [ldA, ldN]
  | k + 1, h, h8 => by
    have hl : (b.take k).length = k := by rw [List.length_take]; omega
    have h1 := ldN_lt (b.take k); rw [hl] at h1
    have hc := (b.getD k 0).toNat_lt
    have e : b.take (k + 1) = b.take k ++ [b.getD k 0] := by rw [List.take_succ_eq_append_getElem (show k < b.length by omega)]; simp [List.getD, List.getElem?_eq_getElem (show k < b.length by omega)]
    rw [e, ldN_app, hl, ldA, UInt64.toNat_or, ldA_nat b k (by omega) (by omega), UInt64.toNat_shiftLeft, UInt8.toNat_toUInt64]
    have e1 : (UInt64.ofNat (8 * k)).toNat % 64 = 8 * k := by rw [UInt64.toNat_ofNat']; omega
    have e2 : (256 : Nat) ^ k = 2 ^ (8 * k) := by rw [show (256 : Nat) = 2 ^ 8 from rfl, ← Nat.pow_mul]
    rw [e1, Nat.shiftLeft_eq, ← e2]
    have h3 := pow_le8 (k + 1) h8
    rw [Nat.pow_succ] at h3
    have h4 : (b.getD k 0).toNat * 256 ^ k < 18446744073709551616 := Nat.lt_of_lt_of_le (Nat.mul_lt_mul_of_lt_of_le hc (Nat.le_refl _) (Nat.pos_of_ne_zero (by simp))) (by rw [Nat.mul_comm]; exact h3)
    show ldN (b.take k) ||| (b.getD k 0).toNat * 256 ^ k % 18446744073709551616 = _
    rw [Nat.mod_eq_of_lt h4, e2, Nat.mul_comm _ (2 ^ (8 * k)), Nat.or_comm, ← Nat.two_pow_add_eq_or_of_lt (by rw [← e2]; exact h1)]
    omega
theorem ldN_byte : ∀ (l : List UInt8) (i : Nat), ldN l / 256 ^ i % 256 = (l.getD i 0).toNat
  | [], i => by simp [ldN]
  | c :: r, 0 => by have := c.toNat_lt; simp [ldN]
  | c :: r, i + 1 => by
    have := c.toNat_lt
    rw [ldN, Nat.pow_succ, Nat.mul_comm (256 ^ i) 256, ← Nat.div_div_eq_div_mul, show (c.toNat + 256 * ldN r) / 256 = ldN r by omega, ldN_byte r i]
    simp
theorem byt_ld8 (c : List UInt8) (h : c.length ≤ 8) (i : Nat) (hi : i < 8) : byt (ld8 c) i = c.getD i 0 := by
  apply UInt8.toNat_inj.1
  rw [byt_toNat _ i hi, ld8, show min c.length 8 = c.length by omega, ldA_nat c _ (Nat.le_refl _) h, List.take_length, ldN_byte]
theorem byt_ldR (c : List UInt8) (h : c.length ≤ 8) (i : Nat) (hi : i < 8) : byt (ldR c) i = c.getD i 0 := by
  apply UInt8.toNat_inj.1
  rw [byt_toNat _ i hi, ldR_nat c h, ldN_byte]

theorem rsx_get (p : List UInt64) (q : List UInt8) (i : Nat) : ∀ (k j : Nat), k ≤ 200 → (rsx p q i k).getD j 0 = if j < k then (rby p).getD j 0 ^^^ q.getD (i + j) 0 else (rby p).getD j 0
  | 0, j, _ => by rw [rsx, if_neg (by omega)]
  | k + 1, j, hk => by
    have ih := rsx_get p q i k
    rw [rsx, List.getD_eq_getElem?_getD, List.getElem?_set]
    by_cases e : k = j
    · subst e
      rw [if_pos rfl, if_pos (by rw [rsx_len]; omega), if_pos (by omega), ih k (by omega), if_neg (by omega)]; rfl
    · rw [if_neg e, ← List.getD_eq_getElem?_getD, ih j (by omega)]
      by_cases h : j < k
      · rw [if_pos h, if_pos (by omega)]
      · rw [if_neg h, if_neg (by omega)]
theorem rstA_get (b : List UInt8) : ∀ (k j : Nat), j < k → (rstA b k).getD j 0 = ldR ((b.drop (8 * j)).take 8)
  | 0, j, h => by omega
  | k + 1, j, h => by
    rw [rstA, List.getD_eq_getElem?_getD]
    have hl := rstA_len b k
    rcases Nat.lt_or_ge j k with h1 | h1
    · rw [List.getElem?_append_left (by omega), ← List.getD_eq_getElem?_getD]; exact rstA_get b k j h1
    · have : j = k := by omega
      subst this
      rw [List.getElem?_append_right (by omega), hl, Nat.sub_self, show 8 * j + 8 - 8 * j = 8 by omega]; rfl
theorem layA_get (p : List UInt64) (b : List UInt8) : ∀ (k j : Nat), k ≤ p.length → (layA p b k).getD j 0 = if j < k then p.getD j 0 ^^^ ld8 ((b.drop (8 * j)).take (min (8 * j + 8) b.length - 8 * j)) else p.getD j 0
  | 0, j, _ => by rw [layA, if_neg (by omega)]
  | k + 1, j, hk => by
    have ih := layA_get p b k
    rw [layA, List.getD_eq_getElem?_getD, List.getElem?_set]
    by_cases e : k = j
    · subst e
      rw [if_pos rfl, if_pos (by rw [layA_len]; omega), if_pos (by omega), ih k (by omega), if_neg (by omega)]; rfl
    · rw [if_neg e, ← List.getD_eq_getElem?_getD, ih j (by omega)]
      by_cases h : j < k
      · rw [if_pos h, if_pos (by omega)]
      · rw [if_neg h, if_neg (by omega)]
theorem getD_drop_take {α : Type} (l : List α) (d : α) (a n i : Nat) : ((l.drop a).take n).getD i d = if i < n then l.getD (a + i) d else d := by
  simp only [List.getD_eq_getElem?_getD, List.getElem?_take, List.getElem?_drop]
  split <;> rfl
/-- One block: the document's way is the program's. -/
theorem block_eq (p : List UInt64) (hp : p.length = 25) (q c : List UInt8) (i r : Nat) (hr : r ≤ 200) (hc : c.length = r) (hq : ∀ j, j < r → q.getD (i + j) 0 = c.getD j 0) : rst (rsx p q i r) = lay p c := by
  apply ext_getD 0 _ _ (by rw [rst_len, lay_len, hp])
  intro j hj
  rw [rst_len] at hj
  rw [rst, rstA_get _ 25 j hj]
  apply word_ext
  intro k hk
  have hl : ((List.drop (8 * j) (rsx p q i r)).take 8).length ≤ 8 := by rw [List.length_take]; omega
  rw [byt_ldR _ hl k hk, getD_drop_take, if_pos hk, rsx_get p q i r _ hr, rby_eq, tkA_get p 25 (8 * j + k) (by omega), show (8 * j + k) / 8 = j by omega, show (8 * j + k) % 8 = k by omega]
  rw [lay, layA_get p c _ j (by omega)]
  by_cases h1 : j < (c.length + 7) / 8
  · rw [if_pos h1, byt_xor _ _ k hk, byt_ld8 _ (by rw [List.length_take]; omega) k hk, getD_drop_take]
    by_cases h2 : 8 * j + k < r
    · rw [if_pos h2, if_pos (by omega), hq _ h2]
    · rw [if_neg h2, if_neg (by omega)]; simp
  · rw [if_neg h1, if_neg (by omega)]
theorem getD_app_l {α : Type} (a b : List α) (d : α) (i : Nat) (h : i < a.length) : (a ++ b).getD i d = a.getD i d := by simp only [List.getD_eq_getElem?_getD, List.getElem?_append_left h]
theorem getD_app_r {α : Type} (a b : List α) (d : α) (i : Nat) (h : a.length ≤ i) : (a ++ b).getD i d = b.getD (i - a.length) d := by simp only [List.getD_eq_getElem?_getD, List.getElem?_append_right h]
theorem getD_rep8 (n i : Nat) : (List.replicate n (0 : UInt8)).getD i 0 = 0 := by
  simp only [List.getD_eq_getElem?_getD, List.getElem?_replicate]; split <;> rfl
theorem getD_set8 (l : List UInt8) (i j : Nat) (x : UInt8) (h : i < l.length) : (l.set i x).getD j 0 = if i = j then x else l.getD j 0 := by
  simp only [List.getD_eq_getElem?_getD, List.getElem?_set]
  by_cases e : i = j
  · subst e; rw [if_pos rfl, if_pos h, if_pos rfl]; rfl
  · rw [if_neg e, if_neg e]
theorem rpad_get (r : Nat) (s : UInt8) (b : List UInt8) (j : Nat) : (rpad r s b).getD j 0 = (if j < b.length then b.getD j 0 else if j = b.length then s else 0) ^^^ (if j = b.length + padN (b.length + 1) r then 128 else 0) := by
  have hg : ∀ j, ((b ++ [s]) ++ List.replicate (padN (b.length + 1) r) (0 : UInt8)).getD j 0 = if j < b.length then b.getD j 0 else if j = b.length then s else 0 := by
    intro j
    by_cases h1 : j < b.length
    · rw [if_pos h1, getD_app_l _ _ _ _ (by simp; omega), getD_app_l _ _ _ _ h1]
    · rw [if_neg h1]
      by_cases h2 : j = b.length
      · subst h2; rw [if_pos rfl, getD_app_l _ _ _ _ (by simp), getD_app_r _ _ _ _ (Nat.le_refl _), Nat.sub_self]; rfl
      · rw [if_neg h2, getD_app_r _ _ _ _ (by simp; omega), getD_rep8]
  rw [rpad, getD_set8 _ _ _ _ (by rw [pre_len]; omega)]
  by_cases e : b.length + 1 + padN (b.length + 1) r - 1 = j
  · rw [if_pos e, hg, if_pos (show j = b.length + padN (b.length + 1) r by omega), e]
  · rw [if_neg e, hg, if_neg (show ¬ j = b.length + padN (b.length + 1) r by omega)]; simp
theorem padB_get (r : Nat) (l : List UInt8) (h : l.length ≤ r) (j : Nat) : (padB r l).getD j 0 = l.getD j 0 := by
  unfold padB
  rw [List.take_of_length_le h]
  rcases Nat.lt_or_ge j l.length with h1 | h1
  · rw [getD_app_l _ _ _ _ h1]
  · rw [getD_app_r _ _ _ _ h1, getD_map_oob l j 0 h1, List.drop_replicate, getD_rep8]
theorem lastB_get (r : Nat) (s : UInt8) (l : List UInt8) (h : l.length < r) (j : Nat) : (lastB r s l).getD j 0 = (l.getD j 0 ^^^ (if j = l.length then s else 0)) ^^^ (if j = r - 1 then 128 else 0) := by
  unfold lastB
  have hp := padB_len r l
  have h0 : l.getD l.length 0 = 0 := getD_map_oob l _ 0 (Nat.le_refl _)
  have hA : ∀ j, ((padB r l).set l.length ((padB r l).getD l.length 0 ^^^ s)).getD j 0 = l.getD j 0 ^^^ (if j = l.length then s else 0) := by
    intro j
    rw [getD_set8 _ _ _ _ (by omega), padB_get r l (by omega), padB_get r l (by omega)]
    by_cases e : l.length = j
    · subst e; rw [if_pos rfl, if_pos rfl]
    · rw [if_neg e, if_neg (fun h => e h.symm)]; simp
  rw [getD_set8 _ _ _ _ (by rw [List.length_set]; omega), hA, hA]
  by_cases e : r - 1 = j
  · subst e; rw [if_pos rfl, if_pos rfl]
  · rw [if_neg e, if_neg (show ¬ j = r - 1 from fun h => e h.symm)]; simp
theorem rabA_eq (r : Nat) (s : UInt8) (b : List UInt8) (hr : 1 ≤ r ∧ r ≤ 200) : ∀ m, m * r ≤ b.length → absR r s (rabA r s b m) (b.drop (m * r)) = absR r s noughts b
  | 0, _ => by rw [Nat.zero_mul]; rfl
  | m + 1, h => by
    rw [Nat.succ_mul] at h
    have hb := block_eq (rabA r s b m) (rabA_len _ _ _ _) (rpad r s b) ((b.drop (m * r)).take r) (m * r) r hr.2 (by rw [List.length_take, List.length_drop]; omega) (fun j hj => by
      rw [rpad_get, if_pos (by omega), if_neg (by omega), getD_drop_take, if_pos hj]; simp)
    have e1 : rabA r s b (m + 1) = kf (lay (rabA r s b m) ((b.drop (m * r)).take r)) := by rw [rabA, fast_eq _ (rst_len _), hb]
    have e2 : b.drop ((m + 1) * r) = (b.drop (m * r)).drop r := by rw [List.drop_drop, Nat.succ_mul]
    rw [e1, e2]
    exact (absR_step r s (rabA r s b m) (b.drop (m * r)) hr.1 (by rw [List.length_drop]; omega)).symm.trans (rabA_eq r s b hr m (by omega))
theorem rabs_eq (r : Nat) (s : UInt8) (b : List UInt8) (hr : 1 ≤ r ∧ r ≤ 200) : rabA r s b (nbk b r) = absR r s noughts b := by
  have hm := Nat.mod_lt b.length (show 0 < r by omega)
  have hd := Nat.div_add_mod b.length r
  have hcm := Nat.mul_comm r (b.length / r)
  have hnr : nbk b r = b.length / r + 1 := by
    have h1 := rpad_nb r s b hr.1
    rw [rpad_len] at h1
    have h2 : padN (b.length + 1) r < r := Nat.mod_lt _ (by omega)
    have h3 : nbk b r * r = (b.length / r + 1) * r := by
      have hz := (padN_iff (b.length + 1) r _ hr.1 (Nat.le_refl _)).2 rfl
      have hle : (b.length / r) * r < nbk b r * r := by omega
      have hge : nbk b r * r < (b.length / r + 2) * r := by rw [Nat.add_mul]; omega
      have a1 := Nat.lt_of_mul_lt_mul_right hle
      have a2 := Nat.lt_of_mul_lt_mul_right hge
      have : nbk b r = b.length / r + 1 := by omega
      rw [this]
    exact Nat.eq_of_mul_eq_mul_right (by omega) h3
  have hpn : (b.length / r) * r + r = b.length + 1 + padN (b.length + 1) r := by
    have h1 := rpad_nb r s b hr.1
    rw [rpad_len, hnr, Nat.succ_mul] at h1; omega
  rw [hnr, ← rabA_eq r s b hr (b.length / r) (by omega), absR_end r s _ _ hr.1 (by rw [List.length_drop]; omega), rabA, fast_eq _ (rst_len _)]
  have hdl : (b.drop (b.length / r * r)).length = b.length % r := by rw [List.length_drop]; omega
  rw [block_eq (rabA r s b (b.length / r)) (rabA_len _ _ _ _) (rpad r s b) (lastB r s (b.drop (b.length / r * r))) (b.length / r * r) r hr.2 (lastB_len _ _ _)]
  intro j hj
  rw [rpad_get, lastB_get r s _ (by omega), hdl]
  have hgd : (b.drop (b.length / r * r)).getD j 0 = b.getD (b.length / r * r + j) 0 := by simp [List.getD_eq_getElem?_getD, List.getElem?_drop]
  rw [hgd]
  have e1 : (b.length / r * r + j = b.length + padN (b.length + 1) r) ↔ j = r - 1 := by omega
  simp only [e1]
  by_cases h1 : b.length / r * r + j < b.length
  · rw [if_pos h1, if_neg (show ¬ j = b.length % r by omega)]; simp
  · rw [if_neg h1, getD_map_oob b _ 0 (by omega)]
    by_cases h2 : b.length / r * r + j = b.length
    · rw [if_pos h2, if_pos (show j = b.length % r by omega)]; simp
    · rw [if_neg h2, if_neg (show ¬ j = b.length % r by omega)]; simp
theorem sqz_small (p : List UInt64) (r n : Nat) (h : 1 ≤ r ∧ r ≤ 200 ∧ n ≤ r) : sqz p r n = tk p n := by
  have h1 : (roA p r 1).length = 1 * r := roA_len p r h.2.1 1
  rw [sqz, ← roA_take p r n 1 ⟨h.1, h.2.1⟩ (by omega)]
  show ([] ++ (rby (fpow p 0)).take r).take n = _
  rw [List.nil_append, List.take_take, show min n r = n by omega, rby_eq]; rfl
end Go.Rx

/- WALKS written by gen.py (own program) out of specs. -/
namespace Go.Proofs.YtaignhikdfpbbaaGreatDoor
open Go.RowKit Go.Rx
set_option maxRecDepth 100000
set_option maxHeartbeats 4000000
set_option linter.unusedVariables false
set_option linter.unusedSimpArgs false

theorem c_rabsN (r : Nat) (s : UInt8) (v : Value) (b : List UInt8) (w0 : World) (hr : 1 ≤ r ∧ r ≤ 200) (hs : Sl w0 v (b.map e8)) (hb : b.length ≤ 100000) :
    Calls Tryz.prog 77 #[en r, e8 s, v] w0 fun e w' => ∃ u0 : Value, e = .returned (u0) ∧ Below w0.heap.size w0 w' ∧ Sl w' u0 ((rabA r s b (nbk b r)).map e64) ∧ (∀ j, u0.ownBlock = some j → w0.heap.size ≤ j) := by
 refine enter (args := [_, _, _]) Tryz.func77 rfl Tryz.ntmps77 rfl ?_
 intro a ha
 have hB := Below.refl w0.heap.size w0
 have hr1 : 1 ≤ r := hr.1
 refine qr fun K1 k2 => ?_
 refine s1 ha rfl (av rfl) ?_; intro a ha
 refine k2 _ _ ?_
 refine qr fun K3 k4 => ?_
 refine smake (k := 25) ha rfl rfl Tryz.underlying86 rfl rfl rfl rfl (show 8 * _ ≤ _ by omega) (by omega) rfl ?_
 intro a w5 b6 ha hg hb6 hge6 hlt6
 have hz6 := Nat.le_trans hB.size hge6
 replace hB := keepB0 hg hB
 rw [show (List.replicate 25 (Value.int .u64 0)) = (List.replicate 25 (0 : UInt64)).map e64 by rw [List.map_replicate]; rfl] at hb6
 refine s1 ha rfl (av rfl) ?_; intro a ha
 refine k4 _ _ ?_
 refine wp_seq_k fun K7 k8 => ?_
 refine qr fun K9 k10 => ?_
 refine s3 ha rfl (mv rfl) (fun _ ha => r_lss ha ((r : Nat) : Int) 1 false rfl rfl (decide_eq_false (by omega))) (mv rfl) ?_; intro a ha
 refine svg ha (r_move ha rfl) rfl rfl rfl rfl rfl ?_; intro a ha
 refine svg ha (r_gtr ha ((r : Nat) : Int) 200 false rfl rfl (decide_eq_false (by omega))) rfl rfl rfl rfl rfl ?_; intro a ha
 refine s1 ha rfl (fun _ ha => r_pick ha false rfl rfl) ?_; intro a ha
 refine k10 _ _ ?_
 refine cond_f ha rfl ?_
 refine wp_skip ?_
 refine k8 _ _ ?_
 refine qr fun K11 k12 => ?_
 refine s1 ha rfl (av rfl) ?_; intro a ha
 refine k12 _ _ ?_
 refine qr fun K13 k14 => ?_
 refine s2 ha rfl (mv rfl) (mv rfl) ?_; intro a ha
 refine sapp (C := (([] : List UInt8)).map e8) (D := (b).map e8) ha rfl rfl Tryz.underlying22 rfl rfl rfl rfl (World.ownsRow_nil w5 w0.heap.size 5 1) (hs.below hB) (one_e8 _) (by simp only [List.length_map]; show _ * 1 ≤ _; omega) (by simp only [List.length_map]; omega) hB.size rfl ?_
 intro a w16 v15 ha hg ho15 hnl15 hpl15
 rw [← List.map_append, List.length_map] at ho15
 rw [List.nil_append, Nat.zero_add] at ho15
 have hg : World.grownBy w5 w16 none := hg
 have hne_15_b6 : ∀ j, v15.ownBlock = some j → j ≠ b6 := fun j hj => (hpl15 j hj).elim (fun h => by simp [Value.ownBlock] at h) (fun h => by have := lt_of_block hb6; omega)
 replace hB := keepB0 hg hB
 replace hb6 := keepO0 hg hb6
 refine s1 ha rfl (av rfl) ?_; intro a ha
 refine k14 _ _ ?_
 refine qr fun K17 k18 => ?_
 refine s2 ha rfl (mv rfl) (mv rfl) ?_; intro a ha
 refine sbuildS ha [(0, e8 s)] (([s] : List UInt8).map e8) rfl Tryz.runUnderlying22 Tryz.sizeOf5 Tryz.zeroValue5 rfl rfl rfl rfl rfl ?_
 intro a w19 b20 ha hg hb20 hge20 hlt20
 have hz20 := Nat.le_trans hB.size hge20
 have hne_ho15_b20 : ∀ j, Value.ownBlock v15 = some j → j ≠ b20 := fun j hj => by have := (ho15.lt j hj).2; omega
 have hq6_20 := bl hb6 hge20
 replace hB := keepB0 hg hB
 replace hb6 := keepO0 hg hb6
 replace ho15 := keepW0 hg ho15
 refine sapp (C := (b).map e8) (D := (([s] : List UInt8)).map e8) ha rfl rfl Tryz.underlying22 rfl rfl rfl rfl ho15 (Sl.ofBlockM hb20 (by rw [show ([s] : List UInt8).length = 1 from rfl]) (by omega)) (one_e8 _) (by simp only [List.length_map, show ([s] : List UInt8).length = 1 from rfl]; show _ * 1 ≤ _; omega) (by simp only [List.length_map, show ([s] : List UInt8).length = 1 from rfl]; omega) hB.size rfl ?_
 intro a w22 v21 ha hg ho21 hnl21 hpl21
 rw [← List.map_append, List.length_map, show ([s] : List UInt8).length = 1 from rfl] at ho21
 rw [List.length_map, show ([s] : List UInt8).length = 1 from rfl] at hnl21
 have hne_21_b6 : ∀ j, v21.ownBlock = some j → j ≠ b6 := fun j hj => (hpl21 j hj).elim (fun h => hne_15_b6 j h) (fun h => by have := lt_of_block hb6; omega)
 have hne_21_b20 : ∀ j, v21.ownBlock = some j → j ≠ b20 := fun j hj => (hpl21 j hj).elim (fun h => hne_ho15_b20 j h) (fun h => by have := lt_of_block hb20; omega)
 replace hB := keepBR hg (own_row ho15) hB
 replace hb6 := keepOR hg (ne_of_ap hne_15_b6) hb6
 replace hb20 := keepOR hg (ne_of_ap hne_ho15_b20) hb20
 refine s1 ha rfl (av rfl) ?_; intro a ha
 refine k18 _ _ ?_
 refine wp_seq_k fun K23 k24 => ?_
 refine wp_block ?_
 refine loopG (fun (j : Nat) a w => ∃ vp : Value, (j ≤ (padN (b.length + 1) r)) ∧ (∀ j, vp.ownBlock = some j → j ≠ b6) ∧ Has 79 [(0, en r), (7, .slice (some ⟨b6, 0, none⟩) 25 25), (8, vp)] a ∧ Below w0.heap.size w0 w ∧ w.heap[b6]? = some (.cells ((List.replicate 25 (0 : UInt64)).map e64).toArray 98 (0, 0)) ∧ w.ownsRow w0.heap.size 5 1 vp ((b ++ [s]) ++ List.replicate j (0 : UInt8)).length (((b ++ [s]) ++ List.replicate j (0 : UInt8)).map e8)) (fun j => (padN (b.length + 1) r) - j) 0 ⟨v21, (by omega), hne_21_b6, ha.to [0, 7, 8] rfl, hB, hb6, (own_castl (own_len ho21) (by rw [List.replicate_zero, List.append_nil]))⟩ ?_
 clear ha a hB hb6 ho21
 intro j a w25 ⟨vp, hkj, hnb_vp_b6, ha, hB, hb6, hovp⟩
 have hpad := padN_iff (b.length + 1) r j hr1 hkj
 have hpn : padN (b.length + 1) r < r := Nat.mod_lt _ (by omega)
 refine wp_seq_k fun K26 k27 => ?_
 refine qr fun K28 k29 => ?_
 refine s5 ha rfl (mv rfl) (fun _ ha => v_of (r_lenS ha Tryz.runUnderlying22 (Sl.ofOwns hovp) rfl (by rw [List.length_map])) (congrArg en (pre_len b s j : ((b ++ [s]) ++ List.replicate j (0 : UInt8)).length = b.length + 1 + j))) (mv rfl) (fun _ ha => rn_rem ha (b.length + 1 + j) r rfl rfl (by omega)) (fun _ ha => r_neq ha (((b.length + 1 + j) % r : Nat) : Int) 0 (decide ((b.length + 1 + j) % r ≠ 0)) rfl rfl (decide_eq_decide.2 (by omega))) ?_; intro a ha
 refine k29 _ _ ?_
 refine cond_if ha rfl (fun hc30 => ?_) (fun hc30 => ?_)
 ·skip
  replace hc30 := of_decide_eq_true hc30
  refine wp_skip ?_
  refine k27 _ _ ?_
  refine wp_block ?_
  refine region ?_
  refine s1 ha rfl (mv rfl) ?_; intro a ha
  refine sbuildS ha [(0, .int .u8 0)] (([(0 : UInt8)] : List UInt8).map e8) rfl Tryz.runUnderlying22 Tryz.sizeOf5 Tryz.zeroValue5 rfl rfl rfl rfl rfl ?_
  intro a w31 b32 ha hg hb32 hge32 hlt32
  have hz32 := Nat.le_trans hB.size hge32
  have hne_hovp_b32 : ∀ j, Value.ownBlock vp = some j → j ≠ b32 := fun j hj => by have := (hovp.lt j hj).2; omega
  have hq6_32 := bl hb6 hge32
  replace hB := keepB0 hg hB
  replace hb6 := keepO0 hg hb6
  replace hovp := keepW0 hg hovp
  refine sapp (C := (((b ++ [s]) ++ List.replicate j (0 : UInt8))).map e8) (D := (([(0 : UInt8)] : List UInt8)).map e8) ha rfl rfl Tryz.underlying22 rfl rfl rfl rfl hovp (Sl.ofBlockM hb32 (by rw [show ([(0 : UInt8)] : List UInt8).length = 1 from rfl]) (by omega)) (one_e8 _) (by simp only [List.length_map, List.length_cons, List.length_nil]; show _ * 1 ≤ _; have := pre_len b s j; omega) (by simp only [List.length_map, List.length_cons, List.length_nil]; have := pre_len b s j; omega) hB.size rfl ?_
  intro a w34 v33 ha hg ho33 hnl33 hpl33
  rw [← List.map_append, List.length_map, show ([(0 : UInt8)] : List UInt8).length = 1 from rfl] at ho33
  rw [List.length_map, show ([(0 : UInt8)] : List UInt8).length = 1 from rfl] at hnl33
  have hne_33_b6 : ∀ j, v33.ownBlock = some j → j ≠ b6 := fun j hj => (hpl33 j hj).elim (fun h => hnb_vp_b6 j h) (fun h => by have := lt_of_block hb6; omega)
  have hne_33_b32 : ∀ j, v33.ownBlock = some j → j ≠ b32 := fun j hj => (hpl33 j hj).elim (fun h => hne_hovp_b32 j h) (fun h => by have := lt_of_block hb32; omega)
  replace hB := keepBR hg (own_row hovp) hB
  replace hb6 := keepOR hg (ne_of_ap hnb_vp_b6) hb6
  replace hb32 := keepOR hg (ne_of_ap hne_hovp_b32) hb32
  replace ho33 := own_castl (own_len ho33) (pre_step b s j)
  refine s1 ha rfl (av rfl) ?_; intro a ha
  exact ⟨j + 1, by omega, v33, (by omega), hne_33_b6, ha.to [0, 7, 8] rfl, hB, hb6, (own_castl (own_len ho33) rfl)⟩
 ·skip
  replace hc30 := of_decide_eq_false hc30
  refine wp_exit ?_
  obtain rfl : j = (padN (b.length + 1) r) := by omega
  refine k24 _ _ ?_
  refine qr fun K35 k36 => ?_
  refine s6 ha rfl (mv rfl) (mv rfl) (fun _ ha => v_of (r_lenS ha Tryz.runUnderlying22 (Sl.ofOwns hovp) rfl (by rw [List.length_map])) (congrArg en (pre_len b s _ : ((b ++ [s]) ++ List.replicate (padN (b.length + 1) r) (0 : UInt8)).length = b.length + 1 + padN (b.length + 1) r))) (fun _ ha => rn_sub ha (b.length + 1 + padN (b.length + 1) r) 1 rfl rfl (by omega) (by omega)) (mv rfl) (mv rfl) ?_; intro a ha
  refine s6 ha rfl (fun _ ha => v_of (r_lenS ha Tryz.runUnderlying22 (Sl.ofOwns hovp) rfl (by rw [List.length_map])) (congrArg en (pre_len b s _ : ((b ++ [s]) ++ List.replicate (padN (b.length + 1) r) (0 : UInt8)).length = b.length + 1 + padN (b.length + 1) r))) (fun _ ha => rn_sub ha (b.length + 1 + padN (b.length + 1) r) 1 rfl rfl (by omega) (by omega)) (fun _ ha => r_indexS (i := (b.length + 1 + padN (b.length + 1) r) - 1) ha Tryz.runUnderlying22 Tryz.sizeOf5 (Sl.ofOwns hovp) (C := ((b ++ [s]) ++ List.replicate (padN (b.length + 1) r) (0 : UInt8)).map e8) rfl rfl (by rw [List.length_map, pre_len b s _]; omega)) (fun _ ha => r_loadS ha rfl Tryz.isAgg5 (Sl.ofOwns hovp) (get_map e8 ((b ++ [s]) ++ List.replicate (padN (b.length + 1) r) (0 : UInt8)) 0 ((b.length + 1 + padN (b.length + 1) r) - 1) (by rw [pre_len b s _]; omega))) (fun _ ha => rb_xor ha (((b ++ [s]) ++ List.replicate (padN (b.length + 1) r) (0 : UInt8)).getD ((b.length + 1 + padN (b.length + 1) r) - 1) 0) (128 : UInt8) rfl rfl) (fun _ ha => r_indexS (i := (b.length + 1 + padN (b.length + 1) r) - 1) ha Tryz.runUnderlying22 Tryz.sizeOf5 (Sl.ofOwns hovp) (C := ((b ++ [s]) ++ List.replicate (padN (b.length + 1) r) (0 : UInt8)).map e8) rfl rfl (by rw [List.length_map, pre_len b s _]; omega)) ?_; intro a ha
  refine sstoreO ha (v := e8 ((((b ++ [s]) ++ List.replicate (padN (b.length + 1) r) (0 : UInt8)).getD ((b.length + 1 + padN (b.length + 1) r) - 1) 0) ^^^ (128 : UInt8))) rfl rfl rfl rfl Tryz.sizeOf5 hovp (by rw [List.length_map, pre_len b s _]; omega) ?_
  intro a w37 ha hg hovp'
  rw [set_map] at hovp'
  replace hB := keepBR hg (own_row hovp) hB
  replace hb6 := keepOR hg (ne_of_ap hnb_vp_b6) hb6
  replace hovp := hovp'
  replace hovp := own_castl (own_len hovp) (show ((b ++ [s]) ++ List.replicate (padN (b.length + 1) r) (0 : UInt8)).set ((b.length + 1 + padN (b.length + 1) r) - 1) ((((b ++ [s]) ++ List.replicate (padN (b.length + 1) r) (0 : UInt8)).getD ((b.length + 1 + padN (b.length + 1) r) - 1) 0) ^^^ (128 : UInt8)) = rpad r s b from rfl)
  refine k36 _ _ ?_
  refine wp_seq_k fun K38 k39 => ?_
  refine qr fun K40 k41 => ?_
  refine s1 ha rfl (av rfl) ?_; intro a ha
  refine k41 _ _ ?_
  refine wp_block ?_
  have hnb : nbk b r * r ≤ 200000 := by rw [← rpad_nb r s b hr1, rpad_len]; have := Nat.mod_lt (r - (b.length + 1) % r) (show 0 < r by omega); unfold padN; omega
  refine loopG (fun (m : Nat) a w => ∃ va : Value, (m ≤ (nbk b r)) ∧ (∀ j, va.ownBlock = some j → w0.heap.size ≤ j) ∧ (∀ j, va.ownBlock = some j → vp.ownBlock ≠ some j) ∧ Has 79 [(0, en r), (8, vp), (9, en (m * r)), (7, va)] a ∧ Below w0.heap.size w0 w ∧ w.ownsRow w0.heap.size 5 1 vp ((rpad r s b).length) ((rpad r s b).map e8) ∧ Sl w va ((rabA r s b m).map e64)) (fun m => (nbk b r) - m) 0 ⟨.slice (some ⟨b6, 0, none⟩) 25 25, (Nat.zero_le _), (fun j hj => by cases hj; exact hz6), (fun j h1 h2 => by cases h1; exact hnb_vp_b6 _ h2 rfl), ha.to [0, 8, 9, 7] (by rw [Nat.zero_mul]; rfl), hB, hovp, (Sl.castM (l := List.replicate 25 (0 : UInt64)) (Sl.ofBlockM hb6 (by rw [List.length_replicate]) (by omega)) rfl)⟩ ?_
  clear ha a hB hb6 hovp
  intro m a w42 ⟨va, hkm, hfr_va, hds_va_hovp, ha, hB, hovp, hsva⟩
  have hm1 : m < nbk b r → m * r + r ≤ nbk b r * r := fun h => by have := Nat.mul_le_mul_right r (show m + 1 ≤ nbk b r from h); rw [Nat.succ_mul] at this; exact this
  have hm2 : nbk b r ≤ m → nbk b r * r ≤ m * r := fun h => Nat.mul_le_mul_right r h
  refine wp_seq_k fun K43 k44 => ?_
  refine qr fun K45 k46 => ?_
  refine s4 ha rfl (mv rfl) (mv rfl) (fun _ ha => v_of (r_lenS ha Tryz.runUnderlying22 (Sl.ofOwns hovp) rfl (by rw [List.length_map])) (congrArg en (rpad_nb r s b hr1 : (rpad r s b).length = nbk b r * r))) (fun _ ha => r_lss ha ((m * r : Nat) : Int) ((nbk b r * r : Nat) : Int) (decide (m * r < nbk b r * r)) rfl rfl (decide_eq_decide.2 (by omega))) ?_; intro a ha
  refine k46 _ _ ?_
  refine cond_if ha rfl (fun hc47 => ?_) (fun hc47 => ?_)
  ·skip
   replace hc47 := of_decide_eq_true hc47
   refine wp_skip ?_
   refine k44 _ _ ?_
   refine wp_seq_k fun K48 k49 => ?_
   refine wp_block ?_
   refine qr fun K50 k51 => ?_
   refine s1 ha rfl (mv rfl) ?_; intro a ha
   refine sc ha (r_call ha [va] rfl Tryz.call110) rfl rfl rfl (c_rbytes va (rabA r s b m) _ hsva (by rw [rabA_len])) ?_
   rintro e w52 ⟨u53, rfl, hBc, ho53⟩
   have hg := grown_call hBc
   have hds_ho53_hovp := nds (own_row ho53) (fun j hj => (hovp.lt j hj).2)
   replace ho53 := own_base ho53 hB.size
   replace hB := keepB0 hg hB
   replace hovp := keepW0 hg hovp
   refine ⟨_, rfl, ?_⟩; intro a ha
   refine s1 ha rfl (av rfl) ?_; intro a ha
   refine k51 _ _ ?_
   refine wp_seq_k fun K54 k55 => ?_
   refine qr fun K56 k57 => ?_
   refine s1 ha rfl (av rfl) ?_; intro a ha
   refine k57 _ _ ?_
   refine wp_block ?_
   refine loopG (fun (k : Nat) a w => ∃ vs : Value, (k ≤ r) ∧ (∀ j, vs.ownBlock = some j → vp.ownBlock ≠ some j) ∧ Has 79 [(0, en r), (8, vp), (9, en (m * r)), (10, vs), (11, en k)] a ∧ Below w0.heap.size w0 w ∧ w.ownsRow w0.heap.size 5 1 vp ((rpad r s b).length) ((rpad r s b).map e8) ∧ w.ownsRow w0.heap.size 5 1 vs (rsx (rabA r s b m) (rpad r s b) (m * r) k).length ((rsx (rabA r s b m) (rpad r s b) (m * r) k).map e8)) (fun k => r - k) 0 ⟨u53, (by omega), hds_ho53_hovp, ha.to [0, 8, 9, 10, 11] rfl, hB, hovp, (own_castl (own_len ho53) rfl)⟩ ?_
   clear ha a hB hovp ho53
   intro k a w58 ⟨vs, hkk, hds_vs_hovp, ha, hB, hovp, hovs⟩
   refine wp_seq_k fun K59 k60 => ?_
   refine qr fun K61 k62 => ?_
   refine s3 ha rfl (mv rfl) (mv rfl) (fun _ ha => r_lss ha ((k : Nat) : Int) ((r : Nat) : Int) (decide (k < r)) rfl rfl (decide_eq_decide.2 (by omega))) ?_; intro a ha
   refine k62 _ _ ?_
   refine cond_if ha rfl (fun hc63 => ?_) (fun hc63 => ?_)
   ·skip
    replace hc63 := of_decide_eq_true hc63
    refine wp_skip ?_
    refine k60 _ _ ?_
    refine wp_seq_k fun K64 k65 => ?_
    refine wp_block ?_
    refine regionD (S := fun w => Below w0.heap.size w0 w ∧ w.ownsRow w0.heap.size 5 1 vp ((rpad r s b).length) ((rpad r s b).map e8) ∧ w.ownsRow w0.heap.size 5 1 vs (rsx (rabA r s b m) (rpad r s b) (m * r) k).length ((rsx (rabA r s b m) (rpad r s b) (m * r) k).map e8) ∧ True) [14] [0, 1, 2, 3, 4, 5, 6, 7, 8, 9, 10, 11, 12, 13] [0, 1, 2, 3, 4, 5, 6, 7, 8, 9, 10, 11, 12, 13, 14] mixed (by kernel_rfl) (fun w hg => ⟨keepB0 hg hB, keepW0 hg hovp, keepW0 hg hovs, trivial⟩) ?_
    intro w66 hg
    replace hB := keepB0 hg hB
    replace hovp := keepW0 hg hovp
    replace hovs := keepW0 hg hovs
    refine c6 ha rfl (cmv rfl) (cmv rfl) (cmv rfl) (cmv rfl) (fun w ⟨_, _, hovs, _⟩ _ ha => r_indexS (i := k) ha Tryz.runUnderlying22 Tryz.sizeOf5 (Sl.ofOwns hovs) (C := (rsx (rabA r s b m) (rpad r s b) (m * r) k).map e8) rfl rfl (by rw [List.length_map, rsx_len]; omega)) (fun w ⟨_, _, hovs, _⟩ _ ha => r_loadS ha rfl Tryz.isAgg5 (Sl.ofOwns hovs) (get_map e8 (rsx (rabA r s b m) (rpad r s b) (m * r) k) 0 k (by rw [rsx_len]; omega))) ?_; intro a ha
    refine c6 ha rfl (cmv rfl) (cmv rfl) (cmv rfl) (fun w _ _ ha => rn_add ha (m * r) k rfl rfl (by omega)) (fun w ⟨_, hovp, _⟩ _ ha => r_indexS (i := (m * r) + k) ha Tryz.runUnderlying22 Tryz.sizeOf5 (Sl.ofOwns hovp) (C := (rpad r s b).map e8) rfl rfl (by rw [List.length_map, rpad_nb r s b hr1]; omega)) (fun w ⟨_, hovp, _⟩ _ ha => r_loadS ha rfl Tryz.isAgg5 (Sl.ofOwns hovp) (get_map e8 (rpad r s b) 0 ((m * r) + k) (by rw [rpad_nb r s b hr1]; omega))) ?_; intro a ha
    refine c2 ha rfl (fun w _ _ ha => rb_xor ha ((rsx (rabA r s b m) (rpad r s b) (m * r) k).getD k 0) ((rpad r s b).getD ((m * r) + k) 0) rfl rfl) (fun w ⟨_, _, hovs, _⟩ _ ha => r_indexS (i := k) ha Tryz.runUnderlying22 Tryz.sizeOf5 (Sl.ofOwns hovs) (C := (rsx (rabA r s b m) (rpad r s b) (m * r) k).map e8) rfl rfl (by rw [List.length_map, rsx_len]; omega)) ?_; intro a ha
    refine cstoreO ha rfl rfl (v := e8 (((rsx (rabA r s b m) (rpad r s b) (m * r) k).getD k 0) ^^^ ((rpad r s b).getD ((m * r) + k) 0))) rfl rfl rfl rfl Tryz.sizeOf5 hovs (by rw [List.length_map, rsx_len]; omega) rfl ?_
    intro a w67 ha hg hovs'
    rw [set_map] at hovs'
    replace hB := keepBR hg (own_row hovs) hB
    replace hovp := keepWR hg hds_vs_hovp hovp
    replace hovs := hovs'
    refine cfin (k65 _ _ ?_)
    refine region ?_
    refine s3 ha rfl (mv rfl) (fun _ ha => rn_add ha k 1 rfl rfl (by omega)) (av rfl) ?_; intro a ha
    exact ⟨k + 1, by omega, vs, (by omega), hds_vs_hovp, ha.to [0, 8, 9, 10, 11] rfl, hB, hovp, (own_castl (own_len hovs) rfl)⟩
   ·skip
    replace hc63 := of_decide_eq_false hc63
    refine wp_exit ?_
    obtain rfl : r = k := by omega
    refine k55 _ _ ?_
    refine region ?_
    refine s1 ha rfl (mv rfl) ?_; intro a ha
    refine sc ha (r_call ha [vs] rfl Tryz.call112) rfl rfl rfl (c_rstate vs (rsx (rabA r s b m) (rpad r s b) (m * r) r) _ (Sl.ofOwns hovs) (by rw [rsx_len])) ?_
    rintro e w68 ⟨u69, rfl, hBc, hs69, hd69⟩
    have hg := grown_call hBc
    have hds_hs69_hovp := nds hd69 (fun j hj => (hovp.lt j hj).2)
    replace hd69 : ∀ j, u69.ownBlock = some j → w0.heap.size ≤ j := fun j hj => Nat.le_trans hB.size (hd69 j hj)
    replace hB := keepB0 hg hB
    replace hovp := keepW0 hg hovp
    refine ⟨_, rfl, ?_⟩; intro a ha
    refine sc ha (r_call ha [u69] rfl Tryz.call111) rfl rfl rfl (c_rFast u69 (rst (rsx (rabA r s b m) (rpad r s b) (m * r) r)) _ hs69 (by rw [rst_len])) ?_
    rintro e w70 ⟨b71, rfl, hBc, hb71, hge71⟩
    have hg := grown_call hBc
    have hz71 := Nat.le_trans hB.size hge71
    have hne_hovp_b71 : ∀ j, Value.ownBlock vp = some j → j ≠ b71 := fun j hj => by have := (hovp.lt j hj).2; omega
    replace hB := keepB0 hg hB
    replace hovp := keepW0 hg hovp
    refine ⟨_, rfl, ?_⟩; intro a ha
    refine s1 ha rfl (av rfl) ?_; intro a ha
    refine k49 _ _ ?_
    refine region ?_
    refine s4 ha rfl (mv rfl) (mv rfl) (fun _ ha => v_of (rn_add ha (m * r) r rfl rfl (by omega)) (congrArg en ((Nat.succ_mul m r).symm : (m * r) + r = (m + 1) * r))) (av rfl) ?_; intro a ha
    exact ⟨m + 1, by omega, .slice (some ⟨b71, 0, none⟩) 25 25, (by omega), (fun j hj => by cases hj; exact hz71), (fun j h1 h2 => by cases h1; exact hne_hovp_b71 _ h2 rfl), ha.to [0, 8, 9, 7] rfl, hB, hovp, (Sl.castM (l := fast (rst (rsx (rabA r s b m) (rpad r s b) (m * r) r))) (Sl.ofBlockM hb71 (by rw [fast_len, rst_len]) (by omega)) rfl)⟩
  ·skip
   replace hc47 := of_decide_eq_false hc47
   refine wp_exit ?_
   obtain rfl : m = (nbk b r) := by omega
   refine k39 _ _ ?_
   refine qr fun K72 k73 => ?_
   refine s2 ha rfl (mv rfl) (av rfl) ?_; intro a ha
   refine k73 _ _ ?_
   refine wp_ret ?_
   exact ret1 ha Tryz.results77 rfl ⟨_, rfl, hB, (Sl.castM (l := rabA r s b (nbk b r)) hsva rfl), hfr_va⟩

theorem c_rout (v : Value) (p : List UInt64) (r n : Nat) (w0 : World) (hs : Sl w0 v (p.map e64)) (hl : p.length = 25) (hr : 1 ≤ r ∧ r ≤ 200) (hn : n ≤ 100000) :
    Calls Tryz.prog 76 #[v, en r, en n] w0 fun e w' => ∃ u0 : Value, e = .returned (u0) ∧ Below w0.heap.size w0 w' ∧ Sl w' u0 ((sqz p r n).map e8) ∧ (∀ j, u0.ownBlock = some j → w0.heap.size ≤ j) := by
 refine enter (args := [_, _, _]) Tryz.func76 rfl Tryz.ntmps76 rfl ?_
 intro a ha
 have hB := Below.refl w0.heap.size w0
 refine qr fun K1 k2 => ?_
 refine s1 ha rfl (av rfl) ?_; intro a ha
 refine k2 _ _ ?_
 refine qr fun K3 k4 => ?_
 refine s1 ha rfl (av rfl) ?_; intro a ha
 refine k4 _ _ ?_
 refine wp_seq_k fun K5 k6 => ?_
 refine wp_block ?_
 refine loopG (fun (g : Nat × List UInt64) a w => ∃ vo : Value, ∃ va : Value, ((roA p r g.1).length < n → g.2 = fpow p g.1) ∧ (g.2.length = 25) ∧ (g.1 ≤ n) ∧ (∀ j, va.ownBlock = some j → vo.ownBlock ≠ some j) ∧ Has 27 [(1, en r), (2, en n), (7, vo), (0, va)] a ∧ Below w0.heap.size w0 w ∧ w.ownsRow w0.heap.size 5 1 vo (roA p r g.1).length ((roA p r g.1).map e8) ∧ Sl w va ((g.2).map e64)) (fun g => n - g.1) (0, p) ⟨.slice none 0 0, v, (fun _ => rfl), hl, (Nat.zero_le _), (fun j _ hj => (nil_own j hj).elim), ha.to [1, 2, 7, 0] rfl, hB, (own_castl (l := ([] : List UInt8)) (World.ownsRow_nil _ _ _ _) rfl), (Sl.castM (l := p) (hs.below hB) rfl)⟩ ?_
 clear ha a hB
 intro g a w7 ⟨vo, va, hgq, hgl, hgk, hds_va_vo, ha, hB, hovo, hsva⟩
 have hro := roA_len p r hr.2 g.1
 have hro2 : g.1 ≤ g.1 * r := Nat.le_mul_of_pos_right g.1 (by omega)
 refine wp_seq_k fun K8 k9 => ?_
 refine qr fun K10 k11 => ?_
 refine s4 ha rfl (mv rfl) (fun _ ha => r_lenS ha Tryz.runUnderlying22 (Sl.ofOwns hovo) rfl (by rw [List.length_map])) (mv rfl) (fun _ ha => r_lss ha (((roA p r g.1).length : Nat) : Int) ((n : Nat) : Int) (decide ((roA p r g.1).length < n)) rfl rfl (decide_eq_decide.2 (by omega))) ?_; intro a ha
 refine k11 _ _ ?_
 refine cond_if ha rfl (fun hc12 => ?_) (fun hc12 => ?_)
 ·skip
  replace hc12 := of_decide_eq_true hc12
  refine wp_skip ?_
  refine k9 _ _ ?_
  refine wp_block ?_
  refine qr fun K13 k14 => ?_
  refine s2 ha rfl (mv rfl) (mv rfl) ?_; intro a ha
  refine sc ha (r_call ha [va] rfl Tryz.call110) rfl rfl rfl (c_rbytes va g.2 _ hsva (by rw [hgl])) ?_
  rintro e w15 ⟨u16, rfl, hBc, ho16⟩
  have hg := grown_call hBc
  have hds_ho16_hovo := nds (own_row ho16) (fun j hj => (hovo.lt j hj).2)
  have hds_ho16_hsva := nds (own_row ho16) (fun j hj => hsva.lt j hj)
  replace ho16 := own_base ho16 hB.size
  replace hB := keepB0 hg hB
  replace hovo := keepW0 hg hovo
  replace hsva := keepS0 hg hsva
  refine ⟨_, rfl, ?_⟩; intro a ha
  refine s2 ha rfl (mv rfl) (fun _ ha => r_resl (C := (rby g.2).map e8) ha 0 r Tryz.runUnderlying22 Tryz.sizeOf5 (Sl.ofOwns ho16) rfl rfl rfl (by omega) (by rw [List.length_map]; exact (by rw [rby_len]; omega))) ?_; intro a ha
  refine sapp (C := ((roA p r g.1)).map e8) (D := ((rby g.2).take r).map e8) ha rfl rfl Tryz.underlying22 rfl rfl rfl rfl hovo (Sl.castM (Sl.cutM (lo := 0) (hi := r) (Sl.ofOwns ho16) (by omega) (by rw [rby_len]; omega)) rfl) (one_e8 _) (by simp only [List.length_map, List.length_take]; show _ * 1 ≤ _; omega) (by simp only [List.length_map, List.length_take]; omega) hB.size rfl ?_
  intro a w18 v17 ha hg ho17 hnl17 hpl17
  rw [← List.map_append, List.length_map] at ho17
  have hds_ho17_hsva : ∀ j, v17.ownBlock = some j → va.ownBlock ≠ some j := fun j h1 h2 => (hpl17 j h1).elim (fun h => (fun j h1 h2 => hds_va_vo j h2 h1) j h h2) (fun h => by have h4 := (fun j hj => hsva.lt j hj) j h2; omega)
  have hds_ho17_ho16 : ∀ j, v17.ownBlock = some j → u16.ownBlock ≠ some j := fun j h1 h2 => (hpl17 j h1).elim (fun h => (fun j h1 h2 => hds_ho16_hovo j h2 h1) j h h2) (fun h => by have h4 := (fun j hj => (ho16.lt j hj).2) j h2; omega)
  replace hB := keepBR hg (own_row hovo) hB
  replace hsva := keepSR hg (fun j h1 h2 => hds_va_vo j h2 h1) hsva
  replace ho16 := keepWR hg (fun j h1 h2 => hds_ho16_hovo j h2 h1) ho16
  refine s1 ha rfl (av rfl) ?_; intro a ha
  refine k14 _ _ ?_
  refine qr fun K19 k20 => ?_
  refine s4 ha rfl (mv rfl) (fun _ ha => r_lenS ha Tryz.runUnderlying22 (Sl.ofOwns ho17) rfl (own_k ho17)) (mv rfl) (fun _ ha => r_lss ha ((((roA p r g.1).length) + (((rby g.2).take r).length) : Nat) : Int) ((n : Nat) : Int) (decide (((roA p r g.1).length) + (((rby g.2).take r).length) < n)) rfl rfl (decide_eq_decide.2 (by omega))) ?_; intro a ha
  refine k20 _ _ ?_
  refine cond_if ha rfl (fun hc21 => ?_) (fun hc21 => ?_)
  ·skip
   replace hc21 := of_decide_eq_true hc21
   refine region ?_
   refine s1 ha rfl (mv rfl) ?_; intro a ha
   refine sc ha (r_call ha [va] rfl Tryz.call111) rfl rfl rfl (c_rFast va g.2 _ hsva (by rw [hgl])) ?_
   rintro e w22 ⟨b23, rfl, hBc, hb23, hge23⟩
   have hg := grown_call hBc
   have hz23 := Nat.le_trans hB.size hge23
   have hne_ho17_b23 : ∀ j, Value.ownBlock v17 = some j → j ≠ b23 := fun j hj => by have := (ho17.lt j hj).2; omega
   replace hB := keepB0 hg hB
   replace ho17 := keepW0 hg ho17
   refine ⟨_, rfl, ?_⟩; intro a ha
   refine s1 ha rfl (av rfl) ?_; intro a ha
   have hq := hgq (by omega)
   have hf1 : fast g.2 = fpow p (g.1 + 1) := by rw [hq, fpow]
   have hf2 : (fast g.2).length = 25 := by rw [fast_len, hgl]
   generalize fast g.2 = f2 at *
   exact ⟨(g.1 + 1, f2), (by show n - (g.1 + 1) < n - g.1; omega), v17, .slice (some ⟨b23, 0, none⟩) 25 25, (fun _ => hf1), hf2, (by show g.1 + 1 ≤ n; omega), (fun j h1 h2 => by cases h1; exact hne_ho17_b23 _ h2 rfl), ha.to [1, 2, 7, 0] rfl, hB, (own_castl (own_len ho17) (by rw [hq]; rfl)), (Sl.castM (l := f2) (Sl.ofBlockM hb23 (by rw [hf2]) (by omega)) rfl)⟩
  ·skip
   replace hc21 := of_decide_eq_false hc21
   refine wp_skip ?_
   have hq := hgq (by omega)
   have hf1 : fast g.2 = fpow p (g.1 + 1) := by rw [hq, fpow]
   have hf2 : (fast g.2).length = 25 := by rw [fast_len, hgl]
   generalize fast g.2 = f2 at *
   exact ⟨(g.1 + 1, g.2), (by show n - (g.1 + 1) < n - g.1; omega), v17, va, (fun h => by exfalso; have h2 : (roA p r (g.1 + 1)).length < n := h; rw [roA, ← hq, List.length_append] at h2; omega), hgl, (by show g.1 + 1 ≤ n; omega), (fun j h1 h2 => hds_ho17_hsva j h2 h1), ha.to [1, 2, 7, 0] rfl, hB, (own_castl (own_len ho17) (by rw [hq]; rfl)), (Sl.castM (l := g.2) hsva rfl)⟩
 ·skip
  replace hc12 := of_decide_eq_false hc12
  refine wp_exit ?_
  refine k6 _ _ ?_
  refine qr fun K24 k25 => ?_
  refine s4 ha rfl (mv rfl) (mv rfl) (fun _ ha => r_resl (C := (roA p r g.1).map e8) ha 0 n Tryz.runUnderlying22 Tryz.sizeOf5 (Sl.ofOwns hovo) rfl rfl rfl (by omega) (by rw [List.length_map]; exact (by omega))) (av rfl) ?_; intro a ha
  refine k25 _ _ ?_
  refine wp_ret ?_
  exact ret1 ha Tryz.results76 rfl ⟨_, rfl, hB, (Sl.castM (l := ((roA p r g.1).drop 0).take (n - 0)) (Sl.cutM (lo := 0) (hi := n) (Sl.ofOwns hovo) (by omega) (by omega)) (roA_take p r n _ hr (by omega))), (fun j hj => (own_row hovo) j (own_rsl _ _ j hj))⟩

theorem c_rshake256 (v : Value) (b : List UInt8) (n : Nat) (w0 : World) (hs : Sl w0 v (b.map e8)) (hb : b.length ≤ 100000) (hn : n ≤ 100000) :
    Calls Tryz.prog 74 #[v, en n] w0 fun e w' => ∃ u0 : Value, e = .returned (u0) ∧ Below w0.heap.size w0 w' ∧ Sl w' u0 ((sqz (absR 136 31 noughts b) 136 n).map e8) ∧ (∀ j, u0.ownBlock = some j → w0.heap.size ≤ j) := by
 refine enter (args := [_, _]) Tryz.func74 rfl Tryz.ntmps74 rfl ?_
 intro a ha
 have hB := Below.refl w0.heap.size w0
 refine qr fun K1 k2 => ?_
 refine s1 ha rfl (av rfl) ?_; intro a ha
 refine k2 _ _ ?_
 refine qr fun K3 k4 => ?_
 refine s1 ha rfl (mv rfl) ?_; intro a ha
 refine sc ha (r_call ha [en 136, e8 (31 : UInt8), v] rfl Tryz.call77) rfl rfl rfl (c_rabsN 136 (31 : UInt8) v b _ (by omega) (hs.below hB) (by omega)) ?_
 rintro e w5 ⟨u6, rfl, hBc, hs6, hd6⟩
 have hg := grown_call hBc
 replace hd6 : ∀ j, u6.ownBlock = some j → w0.heap.size ≤ j := fun j hj => Nat.le_trans hB.size (hd6 j hj)
 replace hB := keepB0 hg hB
 refine ⟨_, rfl, ?_⟩; intro a ha
 refine s1 ha rfl (mv rfl) ?_; intro a ha
 refine sc ha (r_call ha [u6, en 136, en n] rfl Tryz.call76) rfl rfl rfl (c_rout u6 (rabA 136 (31 : UInt8) b (nbk b 136)) 136 n _ hs6 (by rw [rabA_len]) (by omega) (by omega)) ?_
 rintro e w7 ⟨u8, rfl, hBc, hs8, hd8⟩
 have hg := grown_call hBc
 replace hd8 : ∀ j, u8.ownBlock = some j → w0.heap.size ≤ j := fun j hj => Nat.le_trans hB.size (hd8 j hj)
 replace hB := keepB0 hg hB
 refine ⟨_, rfl, ?_⟩; intro a ha
 refine s1 ha rfl (av rfl) ?_; intro a ha
 refine k4 _ _ ?_
 refine wp_ret ?_
 exact ret1 ha Tryz.results74 rfl ⟨_, rfl, hB, (Sl.castM (l := sqz (rabA 136 (31 : UInt8) b (nbk b 136)) 136 n) hs8 (by rw [rabs_eq _ _ _ (by omega)])), hd8⟩
end Go.Proofs.YtaignhikdfpbbaaGreatDoor

/- What a reader gives is the document's stream. -/
namespace Go.Rx
/-- T has come out, l is left: together so many blocks. -/
def RInv (p : List UInt64) (r : Nat) (T : List UInt8) (a : List UInt64) (l : List UInt8) : Prop := ∃ i, a = fpow p i ∧ T ++ l = roA p r (i + 1)
theorem fpow_succ (p : List UInt64) (h : p.length = 25) (i : Nat) : kf (fpow p i) = fpow p (i + 1) := by rw [fpow, fast_eq _ (fpow_len p h i)]
theorem xrunF_inv (p : List UInt64) (hp : p.length = 25) (r N : Nat) (hr : 1 ≤ r ∧ r ≤ 200) : ∀ (f : Nat) (g : List UInt64 × List UInt8 × List UInt8) (T : List UInt8), RInv p r (T ++ g.2.2) g.1 g.2.1 → N - g.2.2.length ≤ f → g.2.2.length ≤ N →
    RInv p r (T ++ (xrunF r N f g).2.2) (xrunF r N f g).1 (xrunF r N f g).2.1 ∧ (xrunF r N f g).2.2.length = N
  | 0, g, T, h, hf, hl => ⟨h, by show g.2.2.length = N; omega⟩
  | f + 1, g, T, h, hf, hl => by
    rw [xrunF]
    split
    · rename_i hN
      obtain ⟨i, h1, h2⟩ := h
      split
      · rename_i h0
        have hk : kf g.1 = fpow p (i + 1) := by rw [h1, fpow_succ p hp]
        have ht := tk_len (kf g.1) r hr.2
        have hb : roA p r (i + 1 + 1) = roA p r (i + 1) ++ tk (kf g.1) r := by rw [roA, ← hk, rby_eq]; rfl
        have hnil : g.2.1 = [] := List.eq_nil_of_length_eq_zero h0
        rw [hnil, List.append_nil] at h2
        generalize kf g.1 = q at *
        refine xrunF_inv p hp r N hr f _ T ⟨i + 1, hk, ?_⟩ (by simp only [List.length_append, List.length_take]; omega) (by simp only [List.length_append, List.length_take]; omega)
        show (T ++ (g.2.2 ++ (tk q r).take _)) ++ (tk q r).drop _ = _
        rw [hb, ← h2, List.append_assoc, List.append_assoc, List.append_assoc, List.take_append_drop]
      · rename_i h0
        refine xrunF_inv p hp r N hr f _ T ⟨i, h1, ?_⟩ (by simp only [List.length_append, List.length_take]; omega) (by simp only [List.length_append, List.length_take]; omega)
        show (T ++ (g.2.2 ++ g.2.1.take _)) ++ g.2.1.drop _ = _
        rw [← h2, List.append_assoc, List.append_assoc, List.append_assoc, List.take_append_drop]
    · exact ⟨h, by omega⟩
theorem xrun_inv (p : List UInt64) (hp : p.length = 25) (r N : Nat) (hr : 1 ≤ r ∧ r ≤ 200) (T : List UInt8) (a : List UInt64) (l : List UInt8) (h : RInv p r T a l) :
    RInv p r (T ++ (xrun r N (a, l, [])).2.2) (xrun r N (a, l, [])).1 (xrun r N (a, l, [])).2.1 ∧ (xrun r N (a, l, [])).2.2.length = N :=
  xrunF_inv p hp r N hr _ (a, l, []) T (by show RInv p r (T ++ []) a l; rw [List.append_nil]; exact h) (Nat.le_refl _) (Nat.zero_le _)
theorem RInv.start (p : List UInt64) (r : Nat) : RInv p r [] p (tk p r) := ⟨0, rfl, by show tk p r = [] ++ (rby (fpow p 0)).take r; rw [List.nil_append, rby_eq]; rfl⟩
theorem RInv.out {p : List UInt64} {r : Nat} {T : List UInt8} {a : List UInt64} {l : List UInt8} (h : RInv p r T a l) (hr : 1 ≤ r ∧ r ≤ 200) : T = sqz p r T.length := by
  obtain ⟨i, _, h2⟩ := h
  have e : T = (roA p r (i + 1)).take T.length := by rw [← h2, List.take_left]
  rw [sqz, ← roA_take p r T.length (i + 1) hr (by rw [← h2, List.length_append]; omega)]
  exact e
theorem xr_sqz (p : List UInt64) (hp : p.length = 25) (r N : Nat) (hr : 1 ≤ r ∧ r ≤ 200) : (xrun r N (p, tk p r, [])).2.2 = sqz p r N := by
  have h := xrun_inv p hp r N hr [] p (tk p r) (RInv.start p r)
  have h1 := h.1.out hr
  rw [List.nil_append, h.2] at h1
  exact h1
end Go.Rx

/- Plain functions: polynomials from bytes, bytes of them. -/
namespace Go.Rx
def bitN (b : List UInt8) (k : Nat) : Nat := (b.getD (k / 8) 0).toNat / 2 ^ (k % 8) % 2
theorem bitN_lt (b : List UInt8) (k : Nat) : bitN b k < 2 := Nat.mod_lt _ (by omega)
theorem u8bit (x : UInt8) (j : Nat) (hj : j < 8) : ((x >>> UInt8.ofNat j) &&& 1).toNat = x.toNat / 2 ^ j % 2 := by
  have h1 : (1 : UInt8).toNat = 2 ^ 1 - 1 := rfl
  rw [UInt8.toNat_and, h1, Nat.and_two_pow_sub_one_eq_mod, UInt8.toNat_shiftRight]
  have e1 : (UInt8.ofNat j).toNat % 8 = j := by rw [UInt8.toNat_ofNat']; omega
  rw [e1, Nat.shiftRight_eq_div_pow]
def btA (b : List UInt8) (at' : Nat) : Nat → Nat
  | 0 => 0
  | i + 1 => btA b at' i + bitN b (at' + i) * 2 ^ i
theorem btA_lt (b : List UInt8) (at' : Nat) : ∀ i, btA b at' i < 2 ^ i
  | 0 => by simp [btA]
  | i + 1 => by
    have h1 := btA_lt b at' i; have h2 := bitN_lt b (at' + i)
    have h3 : bitN b (at' + i) * 2 ^ i ≤ 1 * 2 ^ i := Nat.mul_le_mul_right _ (by omega)
    rw [btA, Nat.pow_succ]; omega
theorem btA_or (b : List UInt8) (at' i : Nat) : btA b at' i ||| bitN b (at' + i) * 2 ^ i = btA b at' (i + 1) := by
  rw [Nat.or_comm, Nat.mul_comm, ← Nat.two_pow_add_eq_or_of_lt (btA_lt b at' i), btA, Nat.mul_comm]; omega
theorem btA_le (b : List UInt8) (at' n i : Nat) (hn : n ≤ 12) (hi : i ≤ n) : btA b at' i ≤ 4096 := by
  have h1 := btA_lt b at' i
  have h2 : 2 ^ i ≤ 2 ^ 12 := Nat.pow_le_pow_right (by omega) (by omega)
  omega
theorem bit_sh (b : List UInt8) (k i : Nat) (hi : i ≤ 12) : bitN b k * 2 ^ i ≤ 4096 := by
  have h2 : 2 ^ i ≤ 2 ^ 12 := Nat.pow_le_pow_right (by omega) hi
  have h3 : bitN b k * 2 ^ i ≤ 1 * 2 ^ i := Nat.mul_le_mul_right _ (by have := bitN_lt b k; omega)
  omega
def shA (X : Nat) : Nat → Nat
  | 0 => X
  | j + 1 => shA X j >>> 1
theorem shA_half (X j : Nat) : shA X (j + 1) = shA X j / 2 := by rw [shA, Nat.shiftRight_eq_div_pow]
def pcA (X : Nat) : Nat → Nat
  | 0 => 0
  | j + 1 => pcA X j + shA X j % 2
theorem pcA_le (X : Nat) : ∀ j, pcA X j + shA X j ≤ X
  | 0 => by simp [pcA, shA]
  | j + 1 => by have := pcA_le X j; rw [pcA, shA_half]; omega
theorem shA_eq (X : Nat) : ∀ j, shA X j = X / 2 ^ j
  | 0 => by simp [shA]
  | j + 1 => by rw [shA_half, shA_eq X j, Nat.div_div_eq_div_mul, Nat.pow_succ]
theorem pcA_more (X j : Nat) (h : shA X j = 0) : ∀ m, pcA X (j + m) = pcA X j ∧ shA X (j + m) = 0
  | 0 => ⟨rfl, h⟩
  | m + 1 => by
    obtain ⟨h1, h2⟩ := pcA_more X j h m
    rw [← Nat.add_assoc]
    exact ⟨by rw [pcA, h1, h2, Nat.zero_mod, Nat.add_zero], by rw [shA_half, h2]⟩
def pc (X : Nat) : Nat := pcA X 12
theorem pc_eq (X j : Nat) (hX : X ≤ 4095) (h : shA X j = 0) : pcA X j = pc X := by
  have h12 : shA X 12 = 0 := by rw [shA_eq]; omega
  rcases Nat.le_total j 12 with hj | hj
  · obtain ⟨m, hm⟩ := Nat.exists_eq_add_of_le hj
    have := (pcA_more X j h m).1
    rw [pc, hm, this]
  · obtain ⟨m, hm⟩ := Nat.exists_eq_add_of_le hj
    have := (pcA_more X 12 h12 m).1
    rw [hm, this, pc]
def onesN (b : List UInt8) (at' n : Nat) : Nat := pc (btA b at' n)
abbrev zero256 : List Int := List.replicate 256 0
def noA (eta : Nat) (b : List UInt8) : Nat → List Int
  | 0 => zero256
  | i + 1 => (noA eta b i).set i ((zsub ((onesN b (2 * i * eta) eta : Nat) : Int) ((onesN b (2 * i * eta + eta) eta : Nat) : Int) : Nat) : Int)
theorem noA_len (eta : Nat) (b : List UInt8) : ∀ i, (noA eta b i).length = 256
  | 0 => List.length_replicate
  | i + 1 => by rw [noA, List.length_set]; exact noA_len eta b i
def prfB (eta : Int) (seed : List UInt8) (n : UInt8) : List UInt8 := sqz (absR 136 31 noughts [seed, [n]].flatten) 136 (64 * eta).toNat
def unA (d : Nat) (b : List UInt8) : Nat → List Int
  | 0 => zero256
  | i + 1 => (unA d b i).set i ((zmod ((btA b (d * i) d : Nat) : Int) : Nat) : Int)
theorem unA_len (d : Nat) (b : List UInt8) : ∀ i, (unA d b i).length = 256
  | 0 => List.length_replicate
  | i + 1 => by rw [unA, List.length_set]; exact unA_len d b i
/-- One coefficient's bits laid down. -/
def paB (c : Nat) (at' : Nat) (o : List UInt8) : Nat → List UInt8
  | 0 => o
  | j + 1 => (paB c at' o j).set ((at' + j) / 8) ((paB c at' o j).getD ((at' + j) / 8) 0 ||| (UInt8.ofNat (c / 2 ^ j % 2) <<< UInt8.ofNat ((at' + j) % 8)))
theorem paB_len (c at' : Nat) (o : List UInt8) : ∀ j, (paB c at' o j).length = o.length
  | 0 => rfl
  | j + 1 => by rw [paB, List.length_set]; exact paB_len c at' o j
def paA (d : Nat) (p : List Int) : Nat → List UInt8
  | 0 => List.replicate (32 * d) 0
  | i + 1 => paB (zmod (p.getD i 0)) (d * i) (paA d p i) d
theorem paA_len (d : Nat) (p : List Int) : ∀ i, (paA d p i).length = 32 * d
  | 0 => List.length_replicate
  | i + 1 => by rw [paA, paB_len]; exact paA_len d p i
def sqA (d : Int) (p : List Int) : Nat → List Int
  | 0 => p
  | i + 1 => (sqA d p i).set i ((zcompZ d ((sqA d p i).getD i 0) : Nat) : Int)
theorem sqA_len (d : Int) (p : List Int) : ∀ i, (sqA d p i).length = p.length
  | 0 => rfl
  | i + 1 => by rw [sqA, List.length_set]; exact sqA_len d p i
def spA (d : Int) (p : List Int) : Nat → List Int
  | 0 => p
  | i + 1 => (spA d p i).set i ((zdecZ d ((spA d p i).getD i 0) : Nat) : Int)
theorem spA_len (d : Int) (p : List Int) : ∀ i, (spA d p i).length = p.length
  | 0 => rfl
  | i + 1 => by rw [spA, List.length_set]; exact spA_len d p i
theorem prf_eq (eta : Nat) (seed : List UInt8) (n : UInt8) : (xrun 136 (((64 * eta : Nat) : Int)).toNat (absR 136 31 noughts [seed, [n]].flatten, tk (absR 136 31 noughts [seed, [n]].flatten) 136, [])).2.2 = prfB (eta : Int) seed n := by
  rw [xr_sqz _ (absR_len _ _ _) 136 _ (by omega), prfB]
  congr 1
theorem prfB_len (eta : Nat) (seed : List UInt8) (n : UInt8) (h : eta ≤ 3) : (prfB (eta : Int) seed n).length = 64 * eta := by
  rw [prfB, sqz_len _ _ _ (by omega)]; omega
end Go.Rx

/- More moves in a region that draws: what is not wanted, literals, appends. -/
namespace Go.Rx
open Go.RowKit
section
variable {P : Program} {ops : Array Oper} {Q : Exit → Act → World → Prop} {S : World → Prop} {T : List Nat}
variable {st : List Nat} {i : Nat} {r : List Nat} {a : Act} {w w' : World} {o : Oper} {m : Nat} {env : Env} {v u : Value} {ty t : TypeId} {pos : String} {af : Array Edge} {x y : Operand} {dst : Option Tmp} {g : Option (Nat × Bool)}

/-- What a literal of a slice does. -/
theorem r_buildS (ha : Has m env a) {e k : Nat} {parts : List (Nat × Operand)} (vs : List (Nat × Value)) (C : List Value) (hp : evp env parts = some vs) (hT : ∀ w, (underlying t).run P w = .ok (.slice e) w) (hsz : ∀ w, (sizeOf e).run P w = .ok 1 w) {z : Value} (hz : ∀ w, (zeroValue e).run P w = .ok z w) (hzc : z.cells = #[z]) (hk0 : Nat.blt 0 k = true) (hk : Nat.ble k 16777216 = true)
    (hf : Instr.fill (fun i => some (i * 1, 1)) (List.replicate k z).toArray vs = some C.toArray) :
    ∃ b w', (execOp a.eval ⟨dst, .buildSlice t k parts.toArray, ty, pos, af, g⟩).run P w = .ok (.value (.slice (some ⟨b, 0, none⟩) k k)) w' ∧ w.grownBy w' none ∧ w'.heap[b]? = some (.cells C.toArray e (0, 0)) ∧ w.heap.size ≤ b ∧ b < w'.heap.size := by
  have h := ha.evp parts vs hp
  have hr := run_buildSlice (P := P) (w := w) (parts := vs.toArray) (C := C) hT hsz hz hzc (by simpa [Nat.blt_eq] using hk0) (by simpa [Nat.ble_eq] using hk) (by simpa using hf)
  have hrun : (execOp a.eval ⟨dst, .buildSlice t k parts.toArray, ty, pos, af, g⟩).run P w = .ok (.value (.slice (some ⟨w.heap.size, 0, none⟩) k k)) (w.alloc (.cells C.toArray e)) := by
    have hm : (parts.toArray.map fun p => (p.1, a.eval p.2)) = vs.toArray := by rw [List.map_toArray, h]
    simp only [execOp, hm, Sem.run_bind, hr, Result.andThen_ok]; rfl
  exact ⟨_, _, hrun, grown_alloc w _, heap_alloc_new w _, Nat.le_refl _, by simp⟩
end
end Go.Rx

/- A slice of bytes turned into its own type: the run-time's mark behind its row. -/
namespace Go.Rx
open Go.RowKit
section
variable {P : Program} {w w' : World} {a : Act} {m : Nat} {env : Env} {v u : Value} {ty t : TypeId} {pos : String} {af : Array Edge} {x y : Operand} {dst : Option Tmp} {g : Option (Nat × Bool)}
end
end Go.Rx

/- More of the calculus: 'or' of ints, an array and a number handed back. -/
namespace Go.Rx
open Go.RowKit
section
variable {P : Program} {n : Nat} {env : Env} {a : Act} {w : World} {dst : Option Tmp} {ty t t' : TypeId} {pos : String} {af : Array Edge} {g : Option (Nat × Bool)} {x y : Operand} {v : Value}
variable {ops : Array Oper} {Q : Exit → Act → World → Prop} {d : Nat} {S : World → Prop} {T : List Nat} {m i : Nat} {st r : List Nat}
/-- New memory in a region that draws. -/
theorem calloc (ha : Has m env a) {t : TypeId} {C : List Value} (hi : ops[i]? = some ⟨some d, .alloc t, ty, pos, af, none⟩) (hc : st.contains i = false) (hz : ∀ w, (zeroValue t).run P w = .ok (.agg C.toArray) w) (hn : Nat.blt d m = true) (hS : ∀ w', w.grownBy w' none → S w')
    (k : ∀ a' w' b, Has m ((d, .pointer (some ⟨b, 0, none⟩)) :: env) a' → w.grownBy w' none → w'.heap[b]? = some (.cells C.toArray t (0, 0)) → w.heap.size ≤ b → b < w'.heap.size → wpC P ops Q S T st r a' w') :
    wpC P ops Q S T st (i :: r) a w :=
  cw ha hi hc (r_alloc hz) rfl rfl hn (fun _ => hS _ (grown_alloc w _)) fun _ ha' => k _ _ _ ha' (grown_alloc w _) (heap_alloc_new w _) (Nat.le_refl _) (by simp)
theorem rn_or (ha : Has n env a) (p q : Nat) (hx : ev env x = some (en p)) (hy : ev env y = some (en q)) (hp : p ≤ 9223372036854775807) (hq : q ≤ 9223372036854775807) :
    (execOp a.eval ⟨dst, .binOp .or t x y t', ty, pos, af, g⟩).run P w = .ok (.value (en (p ||| q))) w := by
  have hlt : p ||| q < 2 ^ 63 := Nat.or_lt_two_pow (by omega) (by omega)
  have e2 : IntKind.i64.wrap ((p ||| q : Nat) : Int) = ((p ||| q : Nat) : Int) := i64_in (by omega) (by omega)
  simp [execOp, ha.ev hx, ha.ev hy, eqGuard, binOp, Op.intBits, IntKind.bits]
  have e' : (BitVec.ofNat 64 p ||| BitVec.ofNat 64 q).toNat = p ||| q := by
    rw [BitVec.toNat_or, BitVec.toNat_ofNat, BitVec.toNat_ofNat, Nat.mod_eq_of_lt (by omega), Nat.mod_eq_of_lt (by omega)]
  show IntKind.i64.wrap (((BitVec.ofNat 64 p ||| BitVec.ofNat 64 q).toNat : Nat) : Int) = _
  rw [e', e2]
theorem retCT {fn : Func} {R : Ending → World → Prop} {p q : Tmp} {ty gb ct : Nat} {C : List Value} (d : TypeDesc) (ha : Has n env a) (hr : fn.results = #[.cell p ty, .tmp q]) (hp : look env p = some (.pointer (some ⟨gb, 0, none⟩))) (hq : look env q = some v)
    (hg : w.heap[gb]? = some (.cells C.toArray ct (0, 0))) (hu : P.underlying ty = some d) (hd : (match d with | .struct _ | .array _ _ => true | _ => false) = true) (hi : (P.info? ty).map (·.size) = some C.length)
    (h : R (.returned (.tuple #[.agg C.toArray, v])) w) : bodyPost P fn R .ret a w := by
  refine ⟨ha.defers, .tuple #[.agg C.toArray, v], ?_, h⟩
  have hpv : a.tmps.getD p undef = .pointer (some ⟨gb, 0, none⟩) := by simp [Array.getD_eq_getD_getElem?, ha.has p _ hp]
  have hqv : a.tmps.getD q undef = v := by simp [Array.getD_eq_getD_getElem?, ha.has q v hq]
  rw [results_cell_tmp hr, hpv]
  simp [asAddr, run_loadVar_row w gb ct ty C.toArray (0, 0) d hg hu hd (by simpa using hi), hqv]
end
end Go.Rx

/- WALKS written by gen.py (own program) out of specs. -/
namespace Go.Proofs.YtaignhikdfpbbaaGreatDoor
open Go.RowKit Go.Rx
set_option maxRecDepth 100000
set_option maxHeartbeats 4000000
set_option linter.unusedVariables false
set_option linter.unusedSimpArgs false

theorem c_bits (v : Value) (b : List UInt8) (k0 n : Nat) (w0 : World) (hs : Sl w0 v (b.map e8)) (hn : n ≤ 12) (hb : k0 + n ≤ 8 * b.length) (hat : k0 ≤ 100000) :
    Calls Tryz.prog 95 #[v, en k0, en n] w0 fun e w' => e = .returned (en (btA b k0 n)) ∧ Below w0.heap.size w0 w' := by
 refine enter (args := [_, _, _]) Tryz.func95 rfl Tryz.ntmps95 rfl ?_
 intro a ha
 have hB := Below.refl w0.heap.size w0
 refine qr fun K1 k2 => ?_
 refine s1 ha rfl (av rfl) ?_; intro a ha
 refine k2 _ _ ?_
 refine qr fun K3 k4 => ?_
 refine s1 ha rfl (av rfl) ?_; intro a ha
 refine k4 _ _ ?_
 refine wp_seq_k fun K5 k6 => ?_
 refine qr fun K7 k8 => ?_
 refine s2 ha rfl (mv rfl) (mv rfl) ?_; intro a ha
 refine k8 _ _ ?_
 refine wp_block ?_
 refine loopG (fun (i : Nat) a w => (i ≤ n) ∧ Has 35 [(0, v), (1, en k0), (10, en n), (11, en i), (7, en (btA b k0 i))] a ∧ Below w0.heap.size w0 w) (fun i => n - i) 0 ⟨(by omega), ha.to [0, 1, 10, 11, 7] rfl, hB⟩ ?_
 clear ha a hB
 intro i a w9 ⟨hki, ha, hB⟩
 refine qr fun K10 k11 => ?_
 refine s1 ha rfl (fun _ ha => r_lss ha ((i : Nat) : Int) ((n : Nat) : Int) (decide (i < n)) rfl rfl (decide_eq_decide.2 (by omega))) ?_; intro a ha
 refine k11 _ _ ?_
 refine wp_seq_k fun K12 k13 => ?_
 refine cond_if ha rfl (fun hc14 => ?_) (fun hc14 => ?_)
 ·skip
  replace hc14 := of_decide_eq_true hc14
  refine wp_skip ?_
  refine k13 _ _ ?_
  refine wp_seq_k fun K15 k16 => ?_
  refine wp_block ?_
  refine qr fun K17 k18 => ?_
  refine s2 ha rfl (mv rfl) (av rfl) ?_; intro a ha
  refine k18 _ _ ?_
  refine qr fun K19 k20 => ?_
  refine s4 ha rfl (mv rfl) (mv rfl) (fun _ ha => rn_add ha k0 i rfl rfl (by omega)) (av rfl) ?_; intro a ha
  refine k20 _ _ ?_
  refine region ?_
  refine s6 ha rfl (mv rfl) (mv rfl) (mv rfl) (fun _ ha => rn_quo ha (k0 + i) 8 rfl rfl (by omega) (by omega)) (fun _ ha => r_indexS (i := (k0 + i) / 8) ha Tryz.runUnderlying22 Tryz.sizeOf5 (hs.below hB) (C := (b).map e8) rfl rfl (by rw [List.length_map]; omega)) (fun _ ha => r_loadS ha rfl Tryz.isAgg5 (hs.below hB) (get_map e8 b 0 ((k0 + i) / 8) (by omega))) ?_; intro a ha
  refine s6 ha rfl (mv rfl) (fun _ ha => rn_rem ha (k0 + i) 8 rfl rfl (by omega)) (fun _ ha => r_conv_n_u64 ha ((k0 + i) % 8) Tryz.runUnderlying3 Tryz.runUnderlying40 rfl (by omega)) (fun _ ha => rb_shr ha (b.getD ((k0 + i) / 8) 0) ((k0 + i) % 8) rfl rfl (by omega)) (fun _ ha => rb_and ha ((b.getD ((k0 + i) / 8) 0) >>> UInt8.ofNat ((k0 + i) % 8)) (1 : UInt8) rfl rfl) (fun _ ha => v_of (r_conv_u8_i64 ha (((b.getD ((k0 + i) / 8) 0) >>> UInt8.ofNat ((k0 + i) % 8)) &&& (1 : UInt8)) Tryz.runUnderlying5 Tryz.runUnderlying3 rfl) (congrArg en (u8bit _ _ (by omega) : (((b.getD ((k0 + i) / 8) 0) >>> UInt8.ofNat ((k0 + i) % 8)) &&& (1 : UInt8)).toNat = bitN b (k0 + i)))) ?_; intro a ha
  refine s5 ha rfl (mv rfl) (fun _ ha => r_conv_n_u64 ha i Tryz.runUnderlying3 Tryz.runUnderlying40 rfl (by omega)) (fun _ ha => rn_shl ha (bitN b (k0 + i)) i rfl rfl (by omega) (by have := bit_sh b (k0 + i) i (by omega); omega)) (fun _ ha => v_of (rn_or ha (btA b k0 i) ((bitN b (k0 + i)) * 2 ^ i) rfl rfl (by have := btA_le b k0 n i hn (by omega); omega) (by have := bit_sh b (k0 + i) i (by omega); omega)) (congrArg en (btA_or b k0 i : (btA b k0 i) ||| ((bitN b (k0 + i)) * 2 ^ i) = btA b k0 (i + 1)))) (av rfl) ?_; intro a ha
  refine k16 _ _ ?_
  refine region ?_
  refine s2 ha rfl (fun _ ha => rn_add ha i 1 rfl rfl (by omega)) (mv rfl) ?_; intro a ha
  exact ⟨i + 1, by omega, (by omega), ha.to [0, 1, 10, 11, 7] rfl, hB⟩
 ·skip
  replace hc14 := of_decide_eq_false hc14
  refine wp_exit ?_
  obtain rfl : n = i := by omega
  refine k6 _ _ ?_
  refine qr fun K21 k22 => ?_
  refine s2 ha rfl (mv rfl) (av rfl) ?_; intro a ha
  refine k22 _ _ ?_
  refine wp_ret ?_
  exact ret1 ha Tryz.results95 rfl ⟨rfl, hB⟩

theorem c_ones (v : Value) (b : List UInt8) (k0 n : Nat) (w0 : World) (hs : Sl w0 v (b.map e8)) (hn : n ≤ 12) (hb : k0 + n ≤ 8 * b.length) (hat : k0 ≤ 100000) :
    Calls Tryz.prog 128 #[v, en k0, en n] w0 fun e w' => e = .returned (en (onesN b k0 n)) ∧ Below w0.heap.size w0 w' := by
 refine enter (args := [_, _, _]) Tryz.func128 rfl Tryz.ntmps128 rfl ?_
 intro a ha
 have hB := Below.refl w0.heap.size w0
 have hX0 := btA_lt b k0 n
 have hX1 : 2 ^ n ≤ 2 ^ 12 := Nat.pow_le_pow_right (by omega) hn
 refine qr fun K1 k2 => ?_
 refine s1 ha rfl (av rfl) ?_; intro a ha
 refine k2 _ _ ?_
 refine qr fun K3 k4 => ?_
 refine s1 ha rfl (av rfl) ?_; intro a ha
 refine k4 _ _ ?_
 refine wp_seq_k fun K5 k6 => ?_
 refine qr fun K7 k8 => ?_
 refine s3 ha rfl (mv rfl) (mv rfl) (mv rfl) ?_; intro a ha
 refine scp ha (r_call ha [v, en k0, en n] rfl Tryz.call95) rfl rfl rfl (c_bits v b k0 n _ (hs.below hB) (by omega) (by omega) (by omega)) ?_; intro w9 hg a ha
 replace hB := keepB0 hg hB
 refine s1 ha rfl (av rfl) ?_; intro a ha
 refine k8 _ _ ?_
 refine wp_block ?_
 refine loopG (fun (j : Nat) a w => (True) ∧ Has 22 [(8, en (shA (btA b k0 n) j)), (7, en (pcA (btA b k0 n) j))] a ∧ Below w0.heap.size w0 w) (fun j => shA (btA b k0 n) j) 0 ⟨trivial, ha.to [8, 7] rfl, hB⟩ ?_
 clear ha a hB
 intro j a w10 ⟨htr, ha, hB⟩
 have hpl := pcA_le (btA b k0 n) j
 refine wp_seq_k fun K11 k12 => ?_
 refine qr fun K13 k14 => ?_
 refine s2 ha rfl (mv rfl) (fun _ ha => r_gtr ha ((shA (btA b k0 n) j : Nat) : Int) 0 (decide (shA (btA b k0 n) j > 0)) rfl rfl (decide_eq_decide.2 (by omega))) ?_; intro a ha
 refine k14 _ _ ?_
 refine cond_if ha rfl (fun hc15 => ?_) (fun hc15 => ?_)
 ·skip
  replace hc15 := of_decide_eq_true hc15
  refine wp_skip ?_
  refine k12 _ _ ?_
  refine wp_seq_k fun K16 k17 => ?_
  refine wp_block ?_
  refine region ?_
  refine s5 ha rfl (mv rfl) (mv rfl) (fun _ ha => v_of (r_mask ha ((shA (btA b k0 n) j : Nat) : Int) 1 (by omega) (m := 1) rfl rfl rfl) (congrArg en ((by omega) : (((shA (btA b k0 n) j : Nat) : Int) % (2 ^ 1 : Nat)).toNat = shA (btA b k0 n) j % 2))) (fun _ ha => rn_add ha (pcA (btA b k0 n) j) (shA (btA b k0 n) j % 2) rfl rfl (by omega)) (av rfl) ?_; intro a ha
  refine k17 _ _ ?_
  refine region ?_
  refine s3 ha rfl (mv rfl) (fun _ ha => rn_shr ha (shA (btA b k0 n) j) 1 rfl rfl (by omega)) (av rfl) ?_; intro a ha
  exact ⟨j + 1, (by rw [shA_half]; omega), trivial, ha.to [8, 7] rfl, hB⟩
 ·skip
  replace hc15 := of_decide_eq_false hc15
  refine wp_exit ?_
  refine k6 _ _ ?_
  refine qr fun K18 k19 => ?_
  refine s2 ha rfl (mv rfl) (av rfl) ?_; intro a ha
  refine k19 _ _ ?_
  refine wp_ret ?_
  exact ret1 ha Tryz.results128 rfl ⟨(by rw [pc_eq _ _ (by omega) (by omega)]; rfl), hB⟩

theorem zero_50S1 : ∀ w, (zeroValue 50).run Tryz.prog w = .ok (.agg ((List.replicate 256 (0 : Int)).map ei).toArray) w := fun _ => by kernel_rfl
theorem c_noise1 (eta : Nat) (v : Value) (b : List UInt8) (w0 : World) (he : 1 ≤ eta ∧ eta ≤ 3) (hs : Sl w0 v (b.map e8)) (hb : b.length = 64 * eta) :
    Calls Tryz.prog 118 #[en eta, v] w0 fun e w' => e = .returned (.tuple #[.agg ((noA eta b 256).map ei).toArray, en 0]) ∧ Below w0.heap.size w0 w' := by
 refine enter (args := [_, _]) Tryz.func118 rfl Tryz.ntmps118 rfl ?_
 intro a ha
 have hB := Below.refl w0.heap.size w0
 refine qr fun K1 k2 => ?_
 refine salloc ha zero_50S1 rfl ?_
 intro a w3 b4 ha hg hb4 hge4 hlt4
 have hz4 := Nat.le_trans hB.size hge4
 replace hB := keepB0 hg hB
 refine s1 ha rfl (av rfl) ?_; intro a ha
 refine k2 _ _ ?_
 refine qr fun K5 k6 => ?_
 refine salloc ha zero_50S1 rfl ?_
 intro a w7 b8 ha hg hb8 hge8 hlt8
 have hz8 := Nat.le_trans hB.size hge8
 have hq4_8 := bl hb4 hge8
 replace hB := keepB0 hg hB
 replace hb4 := keepO0 hg hb4
 refine k6 _ _ ?_
 refine wp_seq_k fun K9 k10 => ?_
 refine qr fun K11 k12 => ?_
 refine s3 ha rfl (mv rfl) (fun _ ha => r_lss ha ((eta : Nat) : Int) 1 false rfl rfl (decide_eq_false (by omega))) (mv rfl) ?_; intro a ha
 refine svg ha (r_move ha rfl) rfl rfl rfl rfl rfl ?_; intro a ha
 refine svg ha (r_gtr ha ((eta : Nat) : Int) 3 false rfl rfl (decide_eq_false (by omega))) rfl rfl rfl rfl rfl ?_; intro a ha
 refine s2 ha rfl (fun _ ha => r_pick ha false rfl rfl) (mv rfl) ?_; intro a ha
 refine svg ha (r_move ha rfl) rfl rfl rfl rfl rfl ?_; intro a ha
 refine svg ha (r_lenS ha Tryz.runUnderlying22 (hs.below hB) rfl (by rw [List.length_map])) rfl rfl rfl rfl rfl ?_; intro a ha
 refine svg ha (r_move ha rfl) rfl rfl rfl rfl rfl ?_; intro a ha
 refine svg ha (rn_mul ha 64 eta rfl rfl (by omega)) rfl rfl rfl rfl rfl ?_; intro a ha
 refine svg ha (r_neq ha ((b.length : Nat) : Int) ((64 * eta : Nat) : Int) false rfl rfl (decide_eq_false (by omega))) rfl rfl rfl rfl rfl ?_; intro a ha
 refine s1 ha rfl (fun _ ha => r_pick ha false rfl rfl) ?_; intro a ha
 refine k12 _ _ ?_
 refine cond_f ha rfl ?_
 refine wp_skip ?_
 refine k10 _ _ ?_
 refine wp_seq_k fun K13 k14 => ?_
 refine qr fun K15 k16 => ?_
 refine s1 ha rfl (mv rfl) ?_; intro a ha
 refine k16 _ _ ?_
 refine wp_block ?_
 refine loopG (fun (i : Nat) a w => (i ≤ 256) ∧ Has 45 [(0, en eta), (1, v), (4, .pointer (some ⟨b4, 0, none⟩)), (6, .pointer (some ⟨b8, 0, none⟩)), (23, en i)] a ∧ Below w0.heap.size w0 w ∧ w.heap[b4]? = some (.cells ((List.replicate 256 (0 : Int)).map ei).toArray 50 (0, 0)) ∧ w.heap[b8]? = some (.cells ((noA eta b i).map ei).toArray 50 (0, 0))) (fun i => 256 - i) 0 ⟨(by omega), ha.to [0, 1, 4, 6, 23] rfl, hB, hb4, hb8⟩ ?_
 clear ha a hB hb4 hb8
 intro i a w17 ⟨hki, ha, hB, hb4, hb8⟩
 have hmm := Nat.mul_le_mul (show 2 * i ≤ 512 by omega) he.2
 refine qr fun K18 k19 => ?_
 refine s1 ha rfl (fun _ ha => r_lss ha ((i : Nat) : Int) 256 (decide (i < 256)) rfl rfl (decide_eq_decide.2 (by omega))) ?_; intro a ha
 refine k19 _ _ ?_
 refine wp_seq_k fun K20 k21 => ?_
 refine cond_if ha rfl (fun hc22 => ?_) (fun hc22 => ?_)
 ·skip
  replace hc22 := of_decide_eq_true hc22
  refine wp_skip ?_
  refine k21 _ _ ?_
  refine wp_seq_k fun K23 k24 => ?_
  refine wp_block ?_
  refine qr fun K25 k26 => ?_
  refine s2 ha rfl (mv rfl) (av rfl) ?_; intro a ha
  refine k26 _ _ ?_
  refine qr fun K27 k28 => ?_
  refine s5 ha rfl (mv rfl) (fun _ ha => rn_mul ha 2 i rfl rfl (by omega)) (mv rfl) (fun _ ha => rn_mul ha (2 * i) eta rfl rfl (by omega)) (av rfl) ?_; intro a ha
  refine k28 _ _ ?_
  refine region ?_
  refine s4 ha rfl (mv rfl) (mv rfl) (mv rfl) (mv rfl) ?_; intro a ha
  refine scp ha (r_call ha [v, en ((2 * i) * eta), en eta] rfl Tryz.call128) rfl rfl rfl (c_ones v b ((2 * i) * eta) eta _ (hs.below hB) (by omega) (by have := Nat.mul_le_mul_right eta (show 2 * i + 2 ≤ 512 by omega); rw [Nat.add_mul] at this; omega) (by omega)) ?_; intro w29 hg a ha
  replace hB := keepB0 hg hB
  replace hb4 := keepO0 hg hb4
  replace hb8 := keepO0 hg hb8
  refine s5 ha rfl (mv rfl) (mv rfl) (mv rfl) (fun _ ha => rn_add ha ((2 * i) * eta) eta rfl rfl (by omega)) (mv rfl) ?_; intro a ha
  refine scp ha (r_call ha [v, en (((2 * i) * eta) + eta), en eta] rfl Tryz.call128) rfl rfl rfl (c_ones v b (((2 * i) * eta) + eta) eta _ (hs.below hB) (by omega) (by have := Nat.mul_le_mul_right eta (show 2 * i + 2 ≤ 512 by omega); rw [Nat.add_mul] at this; omega) (by omega)) ?_; intro w30 hg a ha
  replace hB := keepB0 hg hB
  replace hb4 := keepO0 hg hb4
  replace hb8 := keepO0 hg hb8
  refine scp ha (r_call ha [ei ((onesN b ((2 * i) * eta) eta : Nat) : Int), ei ((onesN b (((2 * i) * eta) + eta) eta : Nat) : Int)] rfl Tryz.call86) rfl rfl rfl (c_sub ((onesN b ((2 * i) * eta) eta : Nat) : Int) ((onesN b (((2 * i) * eta) + eta) eta : Nat) : Int) _ ) ?_; intro w31 hg a ha
  replace hB := keepB0 hg hB
  replace hb4 := keepO0 hg hb4
  replace hb8 := keepO0 hg hb8
  refine s1 ha rfl (fun _ ha => r_indexArr (i := i) ha i Tryz.runUnderlying50 Tryz.sizeOf3 rfl rfl (by omega) (by omega)) ?_; intro a ha
  refine sstore ha (v := ei ((zsub ((onesN b ((2 * i) * eta) eta : Nat) : Int) ((onesN b (((2 * i) * eta) + eta) eta : Nat) : Int) : Nat) : Int)) rfl rfl rfl rfl Tryz.sizeOf3 hb8 (by rw [List.length_map, noA_len]; omega) ?_
  intro a w32 ha hg hb8'
  rw [set_map] at hb8'
  replace hb8 := hb8'
  replace hB := keepB1 hg (by omega) hB
  replace hb4 := keepO1 hg (by omega) hb4
  refine k24 _ _ ?_
  refine region ?_
  refine s2 ha rfl (fun _ ha => rn_add ha i 1 rfl rfl (by omega)) (mv rfl) ?_; intro a ha
  exact ⟨i + 1, by omega, (by omega), ha.to [0, 1, 4, 6, 23] rfl, hB, hb4, hb8⟩
 ·skip
  replace hc22 := of_decide_eq_false hc22
  refine wp_exit ?_
  obtain rfl : i = 256 := by omega
  refine k14 _ _ ?_
  refine qr fun K33 k34 => ?_
  refine s1 ha rfl (fun _ ha => r_loadR ha rfl Tryz.isAgg50 Tryz.sizeOf50 (C := (noA eta b 256).map ei) (by rw [List.length_map, noA_len]) (cells_all hb8)) ?_; intro a ha
  refine sstoreW ha rfl rfl (one_ei _) Tryz.sizeOf50 (by rw [List.length_map, noA_len]) hb4 (by rw [List.length_map, List.length_replicate]) ?_
  intro a w35 ha hg hb4'
  replace hb4 := hb4'
  replace hB := keepB1 hg (by omega) hB
  replace hb8 := keepO1 hg (by omega) hb8
  refine s1 ha rfl (av rfl) ?_; intro a ha
  refine k34 _ _ ?_
  refine wp_ret ?_
  exact retCT _ ha Tryz.results118 rfl rfl hb4 Tryz.underlying50 rfl (by rw [List.length_map, noA_len]; kernel_rfl) ⟨rfl, hB⟩

theorem c_prf1 (eta : Nat) (v : Value) (seed : List UInt8) (n : UInt8) (w0 : World) (he : 1 ≤ eta ∧ eta ≤ 3) (hs : Sl w0 v (seed.map e8)) (hk : seed.length ≤ 50000) (hG : Glob w0) :
    Calls Tryz.prog 97 #[en eta, v, e8 n] w0 fun e w' => e = .returned (.tuple #[.agg ((noA eta (prfB (eta : Int) seed n) 256).map ei).toArray, en 0]) ∧ Below w0.heap.size w0 w' := by
 refine enter (args := [_, _, _]) Tryz.func97 rfl Tryz.ntmps97 rfl ?_
 intro a ha
 have hB := Below.refl w0.heap.size w0
 refine qr fun K1 k2 => ?_
 refine salloc ha zero_50S1 rfl ?_
 intro a w3 b4 ha hg hb4 hge4 hlt4
 have hz4 := Nat.le_trans hB.size hge4
 replace hB := keepB0 hg hB
 refine s1 ha rfl (av rfl) ?_; intro a ha
 refine k2 _ _ ?_
 refine wp_seq_k fun K5 k6 => ?_
 refine qr fun K7 k8 => ?_
 refine s3 ha rfl (mv rfl) (fun _ ha => r_lss ha ((eta : Nat) : Int) 1 false rfl rfl (decide_eq_false (by omega))) (mv rfl) ?_; intro a ha
 refine svg ha (r_move ha rfl) rfl rfl rfl rfl rfl ?_; intro a ha
 refine svg ha (r_gtr ha ((eta : Nat) : Int) 3 false rfl rfl (decide_eq_false (by omega))) rfl rfl rfl rfl rfl ?_; intro a ha
 refine s1 ha rfl (fun _ ha => r_pick ha false rfl rfl) ?_; intro a ha
 refine k8 _ _ ?_
 refine cond_f ha rfl ?_
 refine wp_skip ?_
 refine k6 _ _ ?_
 refine qr fun K9 k10 => ?_
 refine s3 ha rfl (mv rfl) (mv rfl) (mv rfl) ?_; intro a ha
 refine sbuildS ha [(0, e8 n)] (([n] : List UInt8).map e8) rfl Tryz.runUnderlying22 Tryz.sizeOf5 Tryz.zeroValue5 rfl rfl rfl rfl rfl ?_
 intro a w11 b12 ha hg hb12 hge12 hlt12
 have hz12 := Nat.le_trans hB.size hge12
 have hq4_12 := bl hb4 hge12
 replace hB := keepB0 hg hB
 replace hb4 := keepO0 hg hb4
 refine sbuildS ha [(0, v), (1, .slice (some ⟨b12, 0, none⟩) 1 1)] [v, .slice (some ⟨b12, 0, none⟩) 1 1] rfl Tryz.runUnderlying96 Tryz.sizeOf22 Tryz.zeroValue22 rfl rfl rfl (fill2 (Sl.one (hs.below hB)) (Sl.one (Sl.ofBlockM hb12 (by rw [show ([n] : List UInt8).length = 1 from rfl]) (by omega)))) rfl ?_
 intro a w13 b14 ha hg hb14 hge14 hlt14
 have hz14 := Nat.le_trans hB.size hge14
 have hq4_14 := bl hb4 hge14
 have hq12_14 := bl hb12 hge14
 replace hB := keepB0 hg hB
 replace hb4 := keepO0 hg hb4
 replace hb12 := keepO0 hg hb12
 refine sc ha (r_call ha [(.slice (some ⟨b14, 0, none⟩) 2 2)] rfl Tryz.call52) rfl rfl rfl (c_join (.slice (some ⟨b14, 0, none⟩) 2 2) ([v, .slice (some ⟨b12, 0, none⟩) 1 1]) ([seed, ([n] : List UInt8)]) _ (Sl.ofBlock (D := [v, .slice (some ⟨b12, 0, none⟩) 1 1]) (C := [v, .slice (some ⟨b12, 0, none⟩) 1 1]) hb14 rfl (Nat.le_refl _)) (.cons (hs.below hB) (.cons (Sl.ofBlockM hb12 (by rw [show ([n] : List UInt8).length = 1 from rfl]) (by omega)) .nil)) (by first | (simp only [List.flatten_cons, List.flatten_nil, List.append_nil, List.length_append, List.length_cons, List.length_nil]; omega) | (rw [prf_eq, prfB_len _ _ _ (by omega)]; try omega)) (show 2 ≤ 1000 by omega)) ?_
 rintro e w15 ⟨u16, rfl, hBc, hs16, hd16⟩
 have hg := grown_call hBc
 have hnb_hs16_b4 := nbn hd16 hb4
 replace hd16 : ∀ j, u16.ownBlock = some j → w0.heap.size ≤ j := fun j hj => Nat.le_trans hB.size (hd16 j hj)
 replace hB := keepB0 hg hB
 replace hb4 := keepO0 hg hb4
 refine ⟨_, rfl, ?_⟩; intro a ha
 refine sc ha (r_call ha [u16] rfl Tryz.call71) rfl rfl rfl (c_shake256 u16 (([seed, ([n] : List UInt8)]).flatten) _ hs16 (glob_keep hG hB)) ?_
 rintro e w17 ⟨b18, u18, rfl, hBc, hb18, hge18, hs18, hd18, hnx18⟩
 have hg := grown_call hBc
 have hnb_hs18_b4 := nbn hd18 hb4
 have hz18 := Nat.le_trans hB.size hge18
 have hq4_18 := bl hb4 hge18
 replace hd18 : ∀ j, u18.ownBlock = some j → w0.heap.size ≤ j := fun j hj => Nat.le_trans hB.size (hd18 j hj)
 replace hB := keepB0 hg hB
 replace hb4 := keepO0 hg hb4
 refine ⟨_, rfl, ?_⟩; intro a ha
 refine s2 ha rfl (mv rfl) (fun _ ha => rn_mul ha 64 eta rfl rfl (by omega)) ?_; intro a ha
 refine sc ha (r_call ha [.pointer (some ⟨b18, 0, none⟩), ei ((64 * eta : Nat) : Int)] rfl Tryz.call72) rfl rfl rfl (c_read b18 (absR 136 31 noughts (([seed, ([n] : List UInt8)]).flatten)) 136 u18 (tk (absR 136 31 noughts (([seed, ([n] : List UInt8)]).flatten)) 136) ((64 * eta : Nat) : Int) _ hb18 (by rw [absR_len]) hs18 hnx18 (by omega) (by rw [tk_len _ _ (by omega)]; omega) (by omega) (fun _ hg => glob_keep hG (keepB1 hg (hz18) hB))) ?_
 rintro e w19 ⟨u20, v20, rfl, hg, hb18', hsv20, hov20, ho20, hds_ho20_hsv20⟩
 have hnb_ho20_b4 := nbn (own_row ho20) hb4
 have hnb_ho20_b18 := nbn (own_row ho20) hb18
 have hds_ho20_hs18 := nds (own_row ho20) (fun j hj => hs18.lt j hj)
 have hnb_hsv20_b4 : ∀ j, v20.ownBlock = some j → j ≠ b4 := fun j hj => (hov20 j hj).elim (fun h => hnb_hs18_b4 j h) (fun h => by have := lt_of_block hb4; omega)
 have hnb_hsv20_b18 : ∀ j, v20.ownBlock = some j → j ≠ b18 := fun j hj => (hov20 j hj).elim (fun h => hnx18 j h) (fun h => by have := lt_of_block hb18; omega)
 have hdv20 : ∀ j, v20.ownBlock = some j → w0.heap.size ≤ j := fun j hj => (hov20 j hj).elim (fun h => hd18 j h) (fun h => Nat.le_trans hB.size h)
 replace ho20 := own_base ho20 hB.size
 replace hb18 := hb18'
 replace hB := keepB1 hg (by omega) hB
 replace hb4 := keepO1 hg (by omega) hb4
 refine ⟨_, rfl, ?_⟩; intro a ha
 refine scp ha (r_call ha [en eta, u20] rfl Tryz.call118) rfl rfl rfl (c_noise1 eta u20 ((xrun 136 (((64 * eta : Nat) : Int) : Int).toNat (absR 136 31 noughts (([seed, ([n] : List UInt8)]).flatten), tk (absR 136 31 noughts (([seed, ([n] : List UInt8)]).flatten)) 136, [])).2.2) _ (by omega) (Sl.ofOwns ho20) (by first | (simp only [List.flatten_cons, List.flatten_nil, List.append_nil, List.length_append, List.length_cons, List.length_nil]; omega) | (rw [prf_eq, prfB_len _ _ _ (by omega)]; try omega))) ?_; intro w21 hg a ha
 replace hB := keepB0 hg hB
 replace hb4 := keepO0 hg hb4
 refine s2 ha rfl (fun _ ha => r_extract ha (vs := #[.agg ((noA eta ((xrun 136 (((64 * eta : Nat) : Int) : Int).toNat (absR 136 31 noughts (([seed, ([n] : List UInt8)]).flatten), tk (absR 136 31 noughts (([seed, ([n] : List UInt8)]).flatten)) 136, [])).2.2) 256).map ei).toArray, en 0]) rfl rfl) (fun _ ha => r_extract ha (vs := #[.agg ((noA eta ((xrun 136 (((64 * eta : Nat) : Int) : Int).toNat (absR 136 31 noughts (([seed, ([n] : List UInt8)]).flatten), tk (absR 136 31 noughts (([seed, ([n] : List UInt8)]).flatten)) 136, [])).2.2) 256).map ei).toArray, en 0]) rfl rfl) ?_; intro a ha
 refine sstoreW ha rfl rfl (one_ei _) Tryz.sizeOf50 (by rw [List.length_map, noA_len]) hb4 (by rw [List.length_map, List.length_replicate]) ?_
 intro a w22 ha hg hb4'
 replace hb4 := hb4'
 replace hB := keepB1 hg (by omega) hB
 refine s1 ha rfl (av rfl) ?_; intro a ha
 refine k10 _ _ ?_
 refine wp_ret ?_
 exact retCT _ ha Tryz.results97 rfl rfl hb4 Tryz.underlying50 rfl (by rw [List.length_map, noA_len]; kernel_rfl) ⟨(by rw [prf_eq]; first | rfl | trace_state), hB⟩

theorem c_unpack1 (d : Nat) (v : Value) (b : List UInt8) (w0 : World) (hd : 1 ≤ d ∧ d ≤ 12) (hs : Sl w0 v (b.map e8)) (hb : b.length = 32 * d) :
    Calls Tryz.prog 45 #[en d, v] w0 fun e w' => e = .returned (.tuple #[.agg ((unA d b 256).map ei).toArray, en 0]) ∧ Below w0.heap.size w0 w' := by
 refine enter (args := [_, _]) Tryz.func45 rfl Tryz.ntmps45 rfl ?_
 intro a ha
 have hB := Below.refl w0.heap.size w0
 refine qr fun K1 k2 => ?_
 refine salloc ha zero_50S1 rfl ?_
 intro a w3 b4 ha hg hb4 hge4 hlt4
 have hz4 := Nat.le_trans hB.size hge4
 replace hB := keepB0 hg hB
 refine s1 ha rfl (av rfl) ?_; intro a ha
 refine k2 _ _ ?_
 refine qr fun K5 k6 => ?_
 refine salloc ha zero_50S1 rfl ?_
 intro a w7 b8 ha hg hb8 hge8 hlt8
 have hz8 := Nat.le_trans hB.size hge8
 have hq4_8 := bl hb4 hge8
 replace hB := keepB0 hg hB
 replace hb4 := keepO0 hg hb4
 refine k6 _ _ ?_
 refine wp_seq_k fun K9 k10 => ?_
 refine qr fun K11 k12 => ?_
 refine s3 ha rfl (mv rfl) (fun _ ha => r_lss ha ((d : Nat) : Int) 1 false rfl rfl (decide_eq_false (by omega))) (mv rfl) ?_; intro a ha
 refine svg ha (r_move ha rfl) rfl rfl rfl rfl rfl ?_; intro a ha
 refine svg ha (r_gtr ha ((d : Nat) : Int) 12 false rfl rfl (decide_eq_false (by omega))) rfl rfl rfl rfl rfl ?_; intro a ha
 refine s2 ha rfl (fun _ ha => r_pick ha false rfl rfl) (mv rfl) ?_; intro a ha
 refine svg ha (r_move ha rfl) rfl rfl rfl rfl rfl ?_; intro a ha
 refine svg ha (r_lenS ha Tryz.runUnderlying22 (hs.below hB) rfl (by rw [List.length_map])) rfl rfl rfl rfl rfl ?_; intro a ha
 refine svg ha (r_move ha rfl) rfl rfl rfl rfl rfl ?_; intro a ha
 refine svg ha (rn_mul ha 32 d rfl rfl (by omega)) rfl rfl rfl rfl rfl ?_; intro a ha
 refine svg ha (r_neq ha ((b.length : Nat) : Int) ((32 * d : Nat) : Int) false rfl rfl (decide_eq_false (by omega))) rfl rfl rfl rfl rfl ?_; intro a ha
 refine s1 ha rfl (fun _ ha => r_pick ha false rfl rfl) ?_; intro a ha
 refine k12 _ _ ?_
 refine cond_f ha rfl ?_
 refine wp_skip ?_
 refine k10 _ _ ?_
 refine wp_seq_k fun K13 k14 => ?_
 refine qr fun K15 k16 => ?_
 refine s1 ha rfl (mv rfl) ?_; intro a ha
 refine k16 _ _ ?_
 refine wp_block ?_
 refine loopG (fun (i : Nat) a w => (i ≤ 256) ∧ Has 36 [(0, en d), (1, v), (4, .pointer (some ⟨b4, 0, none⟩)), (6, .pointer (some ⟨b8, 0, none⟩)), (22, en i)] a ∧ Below w0.heap.size w0 w ∧ w.heap[b4]? = some (.cells ((List.replicate 256 (0 : Int)).map ei).toArray 50 (0, 0)) ∧ w.heap[b8]? = some (.cells ((unA d b i).map ei).toArray 50 (0, 0))) (fun i => 256 - i) 0 ⟨(by omega), ha.to [0, 1, 4, 6, 22] rfl, hB, hb4, hb8⟩ ?_
 clear ha a hB hb4 hb8
 intro i a w17 ⟨hki, ha, hB, hb4, hb8⟩
 have hmm := Nat.mul_le_mul hd.2 (show i ≤ 256 by omega)
 refine qr fun K18 k19 => ?_
 refine s1 ha rfl (fun _ ha => r_lss ha ((i : Nat) : Int) 256 (decide (i < 256)) rfl rfl (decide_eq_decide.2 (by omega))) ?_; intro a ha
 refine k19 _ _ ?_
 refine wp_seq_k fun K20 k21 => ?_
 refine cond_if ha rfl (fun hc22 => ?_) (fun hc22 => ?_)
 ·skip
  replace hc22 := of_decide_eq_true hc22
  refine wp_skip ?_
  refine k21 _ _ ?_
  refine wp_seq_k fun K23 k24 => ?_
  refine wp_block ?_
  refine qr fun K25 k26 => ?_
  refine s2 ha rfl (mv rfl) (av rfl) ?_; intro a ha
  refine k26 _ _ ?_
  refine region ?_
  refine s6 ha rfl (mv rfl) (mv rfl) (mv rfl) (mv rfl) (fun _ ha => rn_mul ha d i rfl rfl (by omega)) (mv rfl) ?_; intro a ha
  refine scp ha (r_call ha [v, en (d * i), en d] rfl Tryz.call95) rfl rfl rfl (c_bits v b (d * i) d _ (hs.below hB) (by omega) (by have := Nat.mul_le_mul_left d (show i + 1 ≤ 256 by omega); rw [Nat.mul_add] at this; omega) (by omega)) ?_; intro w27 hg a ha
  replace hB := keepB0 hg hB
  replace hb4 := keepO0 hg hb4
  replace hb8 := keepO0 hg hb8
  refine scp ha (r_call ha [ei ((btA b (d * i) d : Nat) : Int)] rfl Tryz.call94) rfl rfl rfl (c_mod ((btA b (d * i) d : Nat) : Int) _ ) ?_; intro w28 hg a ha
  replace hB := keepB0 hg hB
  replace hb4 := keepO0 hg hb4
  replace hb8 := keepO0 hg hb8
  refine s1 ha rfl (fun _ ha => r_indexArr (i := i) ha i Tryz.runUnderlying50 Tryz.sizeOf3 rfl rfl (by omega) (by omega)) ?_; intro a ha
  refine sstore ha (v := ei ((zmod ((btA b (d * i) d : Nat) : Int) : Nat) : Int)) rfl rfl rfl rfl Tryz.sizeOf3 hb8 (by rw [List.length_map, unA_len]; omega) ?_
  intro a w29 ha hg hb8'
  rw [set_map] at hb8'
  replace hb8 := hb8'
  replace hB := keepB1 hg (by omega) hB
  replace hb4 := keepO1 hg (by omega) hb4
  refine k24 _ _ ?_
  refine region ?_
  refine s2 ha rfl (fun _ ha => rn_add ha i 1 rfl rfl (by omega)) (mv rfl) ?_; intro a ha
  exact ⟨i + 1, by omega, (by omega), ha.to [0, 1, 4, 6, 22] rfl, hB, hb4, hb8⟩
 ·skip
  replace hc22 := of_decide_eq_false hc22
  refine wp_exit ?_
  obtain rfl : i = 256 := by omega
  refine k14 _ _ ?_
  refine qr fun K30 k31 => ?_
  refine s1 ha rfl (fun _ ha => r_loadR ha rfl Tryz.isAgg50 Tryz.sizeOf50 (C := (unA d b 256).map ei) (by rw [List.length_map, unA_len]) (cells_all hb8)) ?_; intro a ha
  refine sstoreW ha rfl rfl (one_ei _) Tryz.sizeOf50 (by rw [List.length_map, unA_len]) hb4 (by rw [List.length_map, List.length_replicate]) ?_
  intro a w32 ha hg hb4'
  replace hb4 := hb4'
  replace hB := keepB1 hg (by omega) hB
  replace hb8 := keepO1 hg (by omega) hb8
  refine s1 ha rfl (av rfl) ?_; intro a ha
  refine k31 _ _ ?_
  refine wp_ret ?_
  exact retCT _ ha Tryz.results45 rfl rfl hb4 Tryz.underlying50 rfl (by rw [List.length_map, unA_len]; kernel_rfl) ⟨rfl, hB⟩

theorem c_pack1 (d : Nat) (p : List Int) (w0 : World) (hd : 1 ≤ d ∧ d ≤ 12) (hp : p.length = 256) :
    Calls Tryz.prog 54 #[en d, .agg ((p).map ei).toArray] w0 fun e w' => ∃ u0 : Value, e = .returned (u0) ∧ Below w0.heap.size w0 w' ∧ Sl w' u0 ((paA d p 256).map e8) ∧ (∀ j, u0.ownBlock = some j → w0.heap.size ≤ j) := by
 refine enter (args := [_, _]) Tryz.func54 rfl Tryz.ntmps54 rfl ?_
 intro a ha
 have hB := Below.refl w0.heap.size w0
 refine qr fun K1 k2 => ?_
 refine sbox ha rfl rfl ?_
 intro a w3 b4 ha hg hb4 hge4 hlt4
 have hz4 := Nat.le_trans hB.size hge4
 replace hB := keepB0 hg hB
 refine s1 ha rfl (av rfl) ?_; intro a ha
 refine k2 _ _ ?_
 refine wp_seq_k fun K5 k6 => ?_
 refine qr fun K7 k8 => ?_
 refine s3 ha rfl (mv rfl) (fun _ ha => r_lss ha ((d : Nat) : Int) 1 false rfl rfl (decide_eq_false (by omega))) (mv rfl) ?_; intro a ha
 refine svg ha (r_move ha rfl) rfl rfl rfl rfl rfl ?_; intro a ha
 refine svg ha (r_gtr ha ((d : Nat) : Int) 12 false rfl rfl (decide_eq_false (by omega))) rfl rfl rfl rfl rfl ?_; intro a ha
 refine s1 ha rfl (fun _ ha => r_pick ha false rfl rfl) ?_; intro a ha
 refine k8 _ _ ?_
 refine cond_f ha rfl ?_
 refine wp_skip ?_
 refine k6 _ _ ?_
 refine qr fun K9 k10 => ?_
 refine s2 ha rfl (mv rfl) (fun _ ha => rn_mul ha 32 d rfl rfl (by omega)) ?_; intro a ha
 refine smake (k := 32 * d) ha rfl rfl Tryz.underlying22 rfl rfl rfl rfl (show 1 * _ ≤ _ by omega) (by omega) rfl ?_
 intro a w11 b12 ha hg hb12 hge12 hlt12
 have hz12 := Nat.le_trans hB.size hge12
 have hq4_12 := bl hb4 hge12
 replace hB := keepB0 hg hB
 replace hb4 := keepO0 hg hb4
 rw [show (List.replicate (32 * d) (Value.int .u8 0)) = (List.replicate (32 * d) (0 : UInt8)).map e8 by rw [List.map_replicate]; rfl] at hb12
 refine s1 ha rfl (av rfl) ?_; intro a ha
 refine k10 _ _ ?_
 refine wp_seq_k fun K13 k14 => ?_
 refine qr fun K15 k16 => ?_
 refine s2 ha rfl (fun _ ha => r_loadR ha rfl Tryz.isAgg50 Tryz.sizeOf50 (C := (p).map ei) (by rw [List.length_map, hp]) (cells_all hb4)) (mv rfl) ?_; intro a ha
 refine k16 _ _ ?_
 refine wp_block ?_
 refine loopG (fun (i : Nat) a w => (i ≤ 256) ∧ Has 55 [(0, en d), (5, .slice (some ⟨b12, 0, none⟩) (32 * d) (32 * d)), (19, .agg ((p).map ei).toArray), (20, en i)] a ∧ Below w0.heap.size w0 w ∧ w.heap[b12]? = some (.cells ((paA d p i).map e8).toArray 5 (0, 0))) (fun i => 256 - i) 0 ⟨(by omega), ha.to [0, 5, 19, 20] rfl, hB, hb12⟩ ?_
 clear ha a hB hb12
 intro i a w17 ⟨hki, ha, hB, hb12⟩
 have hmm := Nat.mul_le_mul hd.2 (show i ≤ 256 by omega)
 refine qr fun K18 k19 => ?_
 refine s1 ha rfl (fun _ ha => r_lss ha ((i : Nat) : Int) 256 (decide (i < 256)) rfl rfl (decide_eq_decide.2 (by omega))) ?_; intro a ha
 refine k19 _ _ ?_
 refine wp_seq_k fun K20 k21 => ?_
 refine cond_if ha rfl (fun hc22 => ?_) (fun hc22 => ?_)
 ·skip
  replace hc22 := of_decide_eq_true hc22
  refine wp_skip ?_
  refine k21 _ _ ?_
  refine wp_seq_k fun K23 k24 => ?_
  refine wp_block ?_
  refine qr fun K25 k26 => ?_
  refine s4 ha rfl (mv rfl) (fun _ ha => r_index (C := (p).map ei) ha i rfl rfl Tryz.runUnderlying50 Tryz.sizeOf3 Tryz.isAgg3 (by omega) (get_map ei p 0 i (by rw [hp]; omega))) (av rfl) (av rfl) ?_; intro a ha
  refine k26 _ _ ?_
  refine qr fun K27 k28 => ?_
  refine s1 ha rfl (mv rfl) ?_; intro a ha
  refine scp ha (r_call ha [ei (p.getD i 0)] rfl Tryz.call94) rfl rfl rfl (c_mod (p.getD i 0) _ ) ?_; intro w29 hg a ha
  replace hB := keepB0 hg hB
  replace hb12 := keepO0 hg hb12
  refine s1 ha rfl (av rfl) ?_; intro a ha
  refine k28 _ _ ?_
  refine qr fun K30 k31 => ?_
  refine s2 ha rfl (mv rfl) (mv rfl) ?_; intro a ha
  refine k31 _ _ ?_
  refine wp_block ?_
  have hdi := Nat.mul_le_mul_left d (show i + 1 ≤ 256 by omega)
  rw [Nat.mul_add] at hdi
  refine loopG (fun (j : Nat) a w => (j ≤ d) ∧ Has 55 [(0, en d), (5, .slice (some ⟨b12, 0, none⟩) (32 * d) (32 * d)), (19, .agg ((p).map ei).toArray), (20, en i), (6, en i), (7, en (zmod (p.getD i 0))), (26, en d), (27, en j)] a ∧ Below w0.heap.size w0 w ∧ w.heap[b12]? = some (.cells ((paB (zmod (p.getD i 0)) (d * i) (paA d p i) j).map e8).toArray 5 (0, 0))) (fun j => d - j) 0 ⟨(by omega), ha.to [0, 5, 19, 20, 6, 7, 26, 27] rfl, hB, hb12⟩ ?_
  clear ha a hB hb12
  intro j a w32 ⟨hkj, ha, hB, hb12⟩
  refine qr fun K33 k34 => ?_
  refine s1 ha rfl (fun _ ha => r_lss ha ((j : Nat) : Int) ((d : Nat) : Int) (decide (j < d)) rfl rfl (decide_eq_decide.2 (by omega))) ?_; intro a ha
  refine k34 _ _ ?_
  refine wp_seq_k fun K35 k36 => ?_
  refine cond_if ha rfl (fun hc37 => ?_) (fun hc37 => ?_)
  ·skip
   replace hc37 := of_decide_eq_true hc37
   refine wp_skip ?_
   refine k36 _ _ ?_
   refine wp_seq_k fun K38 k39 => ?_
   refine wp_block ?_
   refine qr fun K40 k41 => ?_
   refine s2 ha rfl (mv rfl) (av rfl) ?_; intro a ha
   refine k41 _ _ ?_
   refine qr fun K42 k43 => ?_
   refine s6 ha rfl (mv rfl) (mv rfl) (fun _ ha => rn_mul ha d i rfl rfl (by omega)) (mv rfl) (fun _ ha => rn_add ha (d * i) j rfl rfl (by omega)) (av rfl) ?_; intro a ha
   refine k43 _ _ ?_
   refine region ?_
   refine s6 ha rfl (mv rfl) (mv rfl) (fun _ ha => rn_quo ha ((d * i) + j) 8 rfl rfl (by omega) (by omega)) (fun _ ha => r_indexB ha (((d * i) + j) / 8) Tryz.runUnderlying22 Tryz.sizeOf5 rfl rfl (by omega)) (fun _ ha => r_load ha rfl Tryz.isAgg5 (cell_of hb12 (get_map e8 (paB (zmod (p.getD i 0)) (d * i) (paA d p i) j) 0 (((d * i) + j) / 8) (by rw [paB_len, paA_len]; omega)))) (mv rfl) ?_; intro a ha
   refine s6 ha rfl (mv rfl) (fun _ ha => r_conv_n_u64 ha j Tryz.runUnderlying3 Tryz.runUnderlying40 rfl (by omega)) (fun _ ha => rn_shr ha (zmod (p.getD i 0)) j rfl rfl (by omega)) (fun _ ha => v_of (r_mask ha (((zmod (p.getD i 0)) >>> j : Nat) : Int) 1 (by omega) (m := 1) rfl rfl rfl) (congrArg en ((by rw [Nat.shiftRight_eq_div_pow]; omega) : ((((zmod (p.getD i 0)) >>> j : Nat) : Int) % (2 ^ 1 : Nat)).toNat = zmod (p.getD i 0) / 2 ^ j % 2))) (fun _ ha => r_conv_n_u8w ha (zmod (p.getD i 0) / 2 ^ j % 2) Tryz.runUnderlying3 Tryz.runUnderlying5 rfl) (mv rfl) ?_; intro a ha
   refine s5 ha rfl (fun _ ha => rn_rem ha ((d * i) + j) 8 rfl rfl (by omega)) (fun _ ha => r_conv_n_u64 ha (((d * i) + j) % 8) Tryz.runUnderlying3 Tryz.runUnderlying40 rfl (by omega)) (fun _ ha => rb_shl ha (UInt8.ofNat (zmod (p.getD i 0) / 2 ^ j % 2)) (((d * i) + j) % 8) rfl rfl (by omega)) (fun _ ha => rb_or ha ((paB (zmod (p.getD i 0)) (d * i) (paA d p i) j).getD (((d * i) + j) / 8) 0) ((UInt8.ofNat (zmod (p.getD i 0) / 2 ^ j % 2)) <<< UInt8.ofNat (((d * i) + j) % 8)) rfl rfl) (fun _ ha => r_indexB ha (((d * i) + j) / 8) Tryz.runUnderlying22 Tryz.sizeOf5 rfl rfl (by omega)) ?_; intro a ha
   refine sstore ha (v := e8 (((paB (zmod (p.getD i 0)) (d * i) (paA d p i) j).getD (((d * i) + j) / 8) 0) ||| ((UInt8.ofNat (zmod (p.getD i 0) / 2 ^ j % 2)) <<< UInt8.ofNat (((d * i) + j) % 8)))) rfl rfl rfl rfl Tryz.sizeOf5 hb12 (by rw [List.length_map, paB_len, paA_len]; omega) ?_
   intro a w44 ha hg hb12'
   rw [set_map] at hb12'
   replace hb12 := hb12'
   replace hB := keepB1 hg (by omega) hB
   refine k39 _ _ ?_
   refine region ?_
   refine s2 ha rfl (fun _ ha => rn_add ha j 1 rfl rfl (by omega)) (mv rfl) ?_; intro a ha
   exact ⟨j + 1, by omega, (by omega), ha.to [0, 5, 19, 20, 6, 7, 26, 27] rfl, hB, hb12⟩
  ·skip
   replace hc37 := of_decide_eq_false hc37
   refine wp_exit ?_
   obtain rfl : d = j := by omega
   refine k24 _ _ ?_
   refine region ?_
   refine s2 ha rfl (fun _ ha => rn_add ha i 1 rfl rfl (by omega)) (mv rfl) ?_; intro a ha
   exact ⟨i + 1, by omega, (by omega), ha.to [0, 5, 19, 20] rfl, hB, hb12⟩
 ·skip
  replace hc22 := of_decide_eq_false hc22
  refine wp_exit ?_
  obtain rfl : i = 256 := by omega
  refine k14 _ _ ?_
  refine qr fun K45 k46 => ?_
  refine s2 ha rfl (mv rfl) (av rfl) ?_; intro a ha
  refine k46 _ _ ?_
  refine wp_ret ?_
  exact ret1 ha Tryz.results54 rfl ⟨_, rfl, hB, (Sl.castM (l := paA d p 256) (Sl.ofBlockM hb12 (by rw [paA_len]) (by omega)) rfl), (fun j hj => by cases hj; exact hz12)⟩

theorem c_squeeze (d : Int) (p : List Int) (w0 : World) (hp : p.length = 256) :
    Calls Tryz.prog 51 #[ei d, .agg ((p).map ei).toArray] w0 fun e w' => e = .returned (.agg ((sqA d p 256).map ei).toArray) ∧ Below w0.heap.size w0 w' := by
 refine enter (args := [_, _]) Tryz.func51 rfl Tryz.ntmps51 rfl ?_
 intro a ha
 have hB := Below.refl w0.heap.size w0
 refine qr fun K1 k2 => ?_
 refine sbox ha rfl rfl ?_
 intro a w3 b4 ha hg hb4 hge4 hlt4
 have hz4 := Nat.le_trans hB.size hge4
 replace hB := keepB0 hg hB
 refine salloc ha zero_50S1 rfl ?_
 intro a w5 b6 ha hg hb6 hge6 hlt6
 have hz6 := Nat.le_trans hB.size hge6
 have hq4_6 := bl hb4 hge6
 replace hB := keepB0 hg hB
 replace hb4 := keepO0 hg hb4
 refine k2 _ _ ?_
 refine wp_seq_k fun K7 k8 => ?_
 refine qr fun K9 k10 => ?_
 refine s1 ha rfl (mv rfl) ?_; intro a ha
 refine k10 _ _ ?_
 refine wp_block ?_
 refine loopG (fun (i : Nat) a w => (i ≤ 256) ∧ Has 18 [(0, ei d), (3, .pointer (some ⟨b4, 0, none⟩)), (4, .pointer (some ⟨b6, 0, none⟩)), (6, en i)] a ∧ Below w0.heap.size w0 w ∧ w.heap[b4]? = some (.cells ((sqA d p i).map ei).toArray 50 (0, 0)) ∧ w.heap[b6]? = some (.cells ((List.replicate 256 (0 : Int)).map ei).toArray 50 (0, 0))) (fun i => 256 - i) 0 ⟨(by omega), ha.to [0, 3, 4, 6] rfl, hB, hb4, hb6⟩ ?_
 clear ha a hB hb4 hb6
 intro i a w11 ⟨hki, ha, hB, hb4, hb6⟩
 refine qr fun K12 k13 => ?_
 refine s1 ha rfl (fun _ ha => r_lss ha ((i : Nat) : Int) 256 (decide (i < 256)) rfl rfl (decide_eq_decide.2 (by omega))) ?_; intro a ha
 refine k13 _ _ ?_
 refine wp_seq_k fun K14 k15 => ?_
 refine cond_if ha rfl (fun hc16 => ?_) (fun hc16 => ?_)
 ·skip
  replace hc16 := of_decide_eq_true hc16
  refine wp_skip ?_
  refine k15 _ _ ?_
  refine wp_seq_k fun K17 k18 => ?_
  refine wp_block ?_
  refine qr fun K19 k20 => ?_
  refine s2 ha rfl (mv rfl) (av rfl) ?_; intro a ha
  refine k20 _ _ ?_
  refine region ?_
  refine s5 ha rfl (mv rfl) (mv rfl) (mv rfl) (fun _ ha => r_indexArr (i := i) ha i Tryz.runUnderlying50 Tryz.sizeOf3 rfl rfl (by omega) (by omega)) (fun _ ha => r_load ha rfl Tryz.isAgg3 (cell_of hb4 (get_map ei (sqA d p i) 0 i (by rw [sqA_len, hp]; omega)))) ?_; intro a ha
  refine scp ha (r_call ha [ei d, ei ((sqA d p i).getD i 0)] rfl Tryz.call99) rfl rfl rfl (c_compZ d ((sqA d p i).getD i 0) _ ) ?_; intro w21 hg a ha
  replace hB := keepB0 hg hB
  replace hb4 := keepO0 hg hb4
  replace hb6 := keepO0 hg hb6
  refine s1 ha rfl (fun _ ha => r_indexArr (i := i) ha i Tryz.runUnderlying50 Tryz.sizeOf3 rfl rfl (by omega) (by omega)) ?_; intro a ha
  refine sstore ha (v := ei ((zcompZ d ((sqA d p i).getD i 0) : Nat) : Int)) rfl rfl rfl rfl Tryz.sizeOf3 hb4 (by rw [List.length_map, sqA_len, hp]; omega) ?_
  intro a w22 ha hg hb4'
  rw [set_map] at hb4'
  replace hb4 := hb4'
  replace hB := keepB1 hg (by omega) hB
  replace hb6 := keepO1 hg (by omega) hb6
  refine k18 _ _ ?_
  refine region ?_
  refine s2 ha rfl (fun _ ha => rn_add ha i 1 rfl rfl (by omega)) (mv rfl) ?_; intro a ha
  exact ⟨i + 1, by omega, (by omega), ha.to [0, 3, 4, 6] rfl, hB, hb4, hb6⟩
 ·skip
  replace hc16 := of_decide_eq_false hc16
  refine wp_exit ?_
  obtain rfl : i = 256 := by omega
  refine k8 _ _ ?_
  refine qr fun K23 k24 => ?_
  refine s1 ha rfl (fun _ ha => r_loadR ha rfl Tryz.isAgg50 Tryz.sizeOf50 (C := (sqA d p 256).map ei) (by rw [List.length_map, sqA_len, hp]) (cells_all hb4)) ?_; intro a ha
  refine sstoreW ha rfl rfl (one_ei _) Tryz.sizeOf50 (by rw [List.length_map, sqA_len, hp]) hb6 (by rw [List.length_map, List.length_replicate]) ?_
  intro a w25 ha hg hb6'
  replace hb6 := hb6'
  replace hB := keepB1 hg (by omega) hB
  replace hb4 := keepO1 hg (by omega) hb4
  refine k24 _ _ ?_
  refine wp_ret ?_
  exact retC _ ha Tryz.results51 rfl hb6 Tryz.underlying50 rfl (by rw [List.length_map, sqA_len, hp]; kernel_rfl) ⟨rfl, hB⟩

theorem c_spread (d : Int) (p : List Int) (w0 : World) (hp : p.length = 256) :
    Calls Tryz.prog 49 #[ei d, .agg ((p).map ei).toArray] w0 fun e w' => e = .returned (.agg ((spA d p 256).map ei).toArray) ∧ Below w0.heap.size w0 w' := by
 refine enter (args := [_, _]) Tryz.func49 rfl Tryz.ntmps49 rfl ?_
 intro a ha
 have hB := Below.refl w0.heap.size w0
 refine qr fun K1 k2 => ?_
 refine sbox ha rfl rfl ?_
 intro a w3 b4 ha hg hb4 hge4 hlt4
 have hz4 := Nat.le_trans hB.size hge4
 replace hB := keepB0 hg hB
 refine salloc ha zero_50S1 rfl ?_
 intro a w5 b6 ha hg hb6 hge6 hlt6
 have hz6 := Nat.le_trans hB.size hge6
 have hq4_6 := bl hb4 hge6
 replace hB := keepB0 hg hB
 replace hb4 := keepO0 hg hb4
 refine k2 _ _ ?_
 refine wp_seq_k fun K7 k8 => ?_
 refine qr fun K9 k10 => ?_
 refine s1 ha rfl (mv rfl) ?_; intro a ha
 refine k10 _ _ ?_
 refine wp_block ?_
 refine loopG (fun (i : Nat) a w => (i ≤ 256) ∧ Has 18 [(0, ei d), (3, .pointer (some ⟨b4, 0, none⟩)), (4, .pointer (some ⟨b6, 0, none⟩)), (6, en i)] a ∧ Below w0.heap.size w0 w ∧ w.heap[b4]? = some (.cells ((spA d p i).map ei).toArray 50 (0, 0)) ∧ w.heap[b6]? = some (.cells ((List.replicate 256 (0 : Int)).map ei).toArray 50 (0, 0))) (fun i => 256 - i) 0 ⟨(by omega), ha.to [0, 3, 4, 6] rfl, hB, hb4, hb6⟩ ?_
 clear ha a hB hb4 hb6
 intro i a w11 ⟨hki, ha, hB, hb4, hb6⟩
 refine qr fun K12 k13 => ?_
 refine s1 ha rfl (fun _ ha => r_lss ha ((i : Nat) : Int) 256 (decide (i < 256)) rfl rfl (decide_eq_decide.2 (by omega))) ?_; intro a ha
 refine k13 _ _ ?_
 refine wp_seq_k fun K14 k15 => ?_
 refine cond_if ha rfl (fun hc16 => ?_) (fun hc16 => ?_)
 ·skip
  replace hc16 := of_decide_eq_true hc16
  refine wp_skip ?_
  refine k15 _ _ ?_
  refine wp_seq_k fun K17 k18 => ?_
  refine wp_block ?_
  refine qr fun K19 k20 => ?_
  refine s2 ha rfl (mv rfl) (av rfl) ?_; intro a ha
  refine k20 _ _ ?_
  refine region ?_
  refine s5 ha rfl (mv rfl) (mv rfl) (mv rfl) (fun _ ha => r_indexArr (i := i) ha i Tryz.runUnderlying50 Tryz.sizeOf3 rfl rfl (by omega) (by omega)) (fun _ ha => r_load ha rfl Tryz.isAgg3 (cell_of hb4 (get_map ei (spA d p i) 0 i (by rw [spA_len, hp]; omega)))) ?_; intro a ha
  refine scp ha (r_call ha [ei d, ei ((spA d p i).getD i 0)] rfl Tryz.call98) rfl rfl rfl (c_decZ d ((spA d p i).getD i 0) _ ) ?_; intro w21 hg a ha
  replace hB := keepB0 hg hB
  replace hb4 := keepO0 hg hb4
  replace hb6 := keepO0 hg hb6
  refine s1 ha rfl (fun _ ha => r_indexArr (i := i) ha i Tryz.runUnderlying50 Tryz.sizeOf3 rfl rfl (by omega) (by omega)) ?_; intro a ha
  refine sstore ha (v := ei ((zdecZ d ((spA d p i).getD i 0) : Nat) : Int)) rfl rfl rfl rfl Tryz.sizeOf3 hb4 (by rw [List.length_map, spA_len, hp]; omega) ?_
  intro a w22 ha hg hb4'
  rw [set_map] at hb4'
  replace hb4 := hb4'
  replace hB := keepB1 hg (by omega) hB
  replace hb6 := keepO1 hg (by omega) hb6
  refine k18 _ _ ?_
  refine region ?_
  refine s2 ha rfl (fun _ ha => rn_add ha i 1 rfl rfl (by omega)) (mv rfl) ?_; intro a ha
  exact ⟨i + 1, by omega, (by omega), ha.to [0, 3, 4, 6] rfl, hB, hb4, hb6⟩
 ·skip
  replace hc16 := of_decide_eq_false hc16
  refine wp_exit ?_
  obtain rfl : i = 256 := by omega
  refine k8 _ _ ?_
  refine qr fun K23 k24 => ?_
  refine s1 ha rfl (fun _ ha => r_loadR ha rfl Tryz.isAgg50 Tryz.sizeOf50 (C := (spA d p 256).map ei) (by rw [List.length_map, spA_len, hp]) (cells_all hb4)) ?_; intro a ha
  refine sstoreW ha rfl rfl (one_ei _) Tryz.sizeOf50 (by rw [List.length_map, spA_len, hp]) hb6 (by rw [List.length_map, List.length_replicate]) ?_
  intro a w25 ha hg hb6'
  replace hb6 := hb6'
  replace hB := keepB1 hg (by omega) hB
  replace hb4 := keepO1 hg (by omega) hb4
  refine k24 _ _ ?_
  refine wp_ret ?_
  exact retC _ ha Tryz.results49 rfl hb6 Tryz.underlying50 rfl (by rw [List.length_map, spA_len, hp]; kernel_rfl) ⟨rfl, hB⟩
end Go.Proofs.YtaignhikdfpbbaaGreatDoor

/- Plain functions: a polynomial of a seed, by what is refused. -/
namespace Go.Rx
def ch (A : List UInt64) (k : Nat) : List UInt8 := tk (fpow A k) 168
theorem ch_len (A : List UInt64) (k : Nat) : (ch A k).length = 168 := tk_len _ _ (by omega)
theorem ch_ref (A : List UInt64) (k : Nat) : (rby (fpow A k)).take 168 = ch A k := by rw [rby_eq]; rfl
def xU (A : List UInt64) : Nat → List UInt64 × List UInt8
  | 0 => (A, tk A 168)
  | k + 1 => (fpow A k, [])
theorem xU_0 (A : List UInt64) : xU A 0 = (A, tk A 168) := by rw [xU]
theorem xU_s (A : List UInt64) (k : Nat) : xU A (k + 1) = (fpow A k, []) := by rw [xU]
theorem xU_len (A : List UInt64) (hA : A.length = 25) : ∀ k, (xU A k).1.length = 25
  | 0 => by rw [xU_0]; exact hA
  | k + 1 => by rw [xU_s]; exact fpow_len A hA k
theorem xU_le (A : List UInt64) : ∀ k, (xU A k).2.length ≤ 200
  | 0 => by have h := tk_len A 168 (by omega); rw [xU_0]; generalize tk A 168 = l at *; dsimp only; omega
  | k + 1 => by rw [xU_s]; dsimp only [List.length_nil]; omega
theorem xr_all (r N : Nat) (hr : 1 ≤ r ∧ r ≤ 200) (hN : 1 ≤ N) (B : List UInt64) (l : List UInt8) (hl : l.length = N) : xrun r N (B, l, []) = (B, [], l) := by
  have e1 : N - ([] : List UInt8).length = N := rfl
  rw [xrun_old r N hr (B, l, []) (by show 0 < N; omega) (by show ¬ l.length = 0; omega)]
  show xrun r N (B, l.drop (min (N - ([] : List UInt8).length) l.length), [] ++ l.take (min (N - ([] : List UInt8).length) l.length)) = _
  rw [e1, hl, Nat.min_self, List.drop_of_length_le (by omega), List.take_of_length_le (by omega), List.nil_append]
  exact xrun_done _ _ _ (by show ¬ l.length < N; omega)
theorem xr_fresh (r : Nat) (hr : 1 ≤ r ∧ r ≤ 200) (B : List UInt64) : xrun r r (B, [], []) = (kf B, [], tk (kf B) r) := by
  have e1 : r - ([] : List UInt8).length = r := rfl
  have hl := tk_len (kf B) r hr.2
  rw [xrun_new r r hr (B, [], []) (by show 0 < r; omega) rfl]
  show xrun r r (kf B, (tk (kf B) r).drop (min (r - ([] : List UInt8).length) (tk (kf B) r).length), [] ++ (tk (kf B) r).take (min (r - ([] : List UInt8).length) (tk (kf B) r).length)) = _
  generalize tk (kf B) r = l at *
  generalize kf B = C at *
  rw [e1, hl, Nat.min_self, List.drop_of_length_le (by omega), List.take_of_length_le (by omega), List.nil_append]
  exact xrun_done _ _ _ (by show ¬ l.length < r; omega)
theorem xU_run (A : List UInt64) (hA : A.length = 25) : ∀ k, xrun 168 (168 : Int).toNat ((xU A k).1, (xU A k).2, []) = (fpow A k, [], ch A k)
  | 0 => by
    have h := xr_all 168 168 (by omega) (by omega) A (tk A 168) (tk_len _ _ (by omega))
    have e : (168 : Int).toNat = 168 := rfl
    rw [e, xU_0, ch, fpow]; generalize tk A 168 = l at *; exact h
  | k + 1 => by
    have h := xr_fresh 168 (by omega) (fpow A k)
    have e : (168 : Int).toNat = 168 := rfl
    rw [fpow_succ A hA k] at h
    rw [e, xU_s, ch]; generalize fpow A (k + 1) = B at *; exact h
theorem xU_sa (A : List UInt64) (hA : A.length = 25) (k : Nat) : (xrun 168 (168 : Int).toNat ((xU A k).1, (xU A k).2, [])).1 = (xU A (k + 1)).1 := by rw [xU_run A hA]; rfl
theorem xU_sl (A : List UInt64) (hA : A.length = 25) (k : Nat) : (xrun 168 (168 : Int).toNat ((xU A k).1, (xU A k).2, [])).2.1 = (xU A (k + 1)).2 := by rw [xU_run A hA]; rfl
theorem xU_out (A : List UInt64) (hA : A.length = 25) (k : Nat) : (xrun 168 (168 : Int).toNat ((xU A k).1, (xU A k).2, [])).2.2 = ch A k := by rw [xU_run A hA]
/-- One candidate, taken or not. -/
def rej (c : Int) (s : List Int × Nat) : List Int × Nat := if c < 3329 ∧ s.2 < 256 then (s.1.set s.2 c, s.2 + 1) else s
theorem rej_len (c : Int) (s : List Int × Nat) (h : s.1.length = 256) : (rej c s).1.length = 256 := by unfold rej; split; rw [List.length_set]; exact h; exact h
theorem rej_full (c : Int) (s : List Int × Nat) (h : s.2 = 256) : rej c s = s := by unfold rej; rw [if_neg (by omega)]
theorem rej_t (c : Int) (s : List Int × Nat) (h1 : c < 3329) (h2 : s.2 < 256) : rej c s = (s.1.set s.2 c, s.2 + 1) := by unfold rej; rw [if_pos ⟨h1, h2⟩]
theorem rej_f (c : Int) (s : List Int × Nat) (h1 : ¬ c < 3329) : rej c s = s := by unfold rej; rw [if_neg (fun h => h1 h.1)]
def rjC (q : List Int) (s : List Int × Nat) : Nat → List Int × Nat
  | 0 => s
  | j + 1 => rej (q.getD j 0) (rjC q s j)
def loB (b : List UInt8) (i : Nat) : Nat := (b.getD (3 * i) 0).toNat ||| (b.getD (3 * i + 1) 0 &&& 15).toNat * 2 ^ 8
def hiB (b : List UInt8) (i : Nat) : Nat := (b.getD (3 * i + 1) 0 >>> UInt8.ofNat 4).toNat ||| (b.getD (3 * i + 2) 0).toNat * 2 ^ 4
def pcd (b : List UInt8) (i : Nat) : List Int := [((loB b i : Nat) : Int), ((hiB b i : Nat) : Int)]
theorem pcd_len (b : List UInt8) (i : Nat) : (pcd b i).length = 2 := rfl
theorem rjC_two (b : List UInt8) (i : Nat) (s : List Int × Nat) : rjC (pcd b i) s 2 = rej ((hiB b i : Nat) : Int) (rej ((loB b i : Nat) : Int) s) := by
  have e1 : (pcd b i).getD 0 0 = ((loB b i : Nat) : Int) := rfl
  have e2 : (pcd b i).getD 1 0 = ((hiB b i : Nat) : Int) := rfl
  rw [rjC, rjC, rjC, e1, e2]
def rjB (b : List UInt8) (s : List Int × Nat) : Nat → List Int × Nat
  | 0 => s
  | i + 1 => rjC (pcd b i) (rjB b s i) 2
theorem rjB_step (b : List UInt8) (s : List Int × Nat) (i : Nat) : rjB b s (i + 1) = rej ((hiB b i : Nat) : Int) (rej ((loB b i : Nat) : Int) (rjB b s i)) := by rw [rjB, rjC_two]
theorem rjB_len (b : List UInt8) (s : List Int × Nat) (h : s.1.length = 256) : ∀ i, (rjB b s i).1.length = 256
  | 0 => h
  | i + 1 => by rw [rjB_step]; exact rej_len _ _ (rej_len _ _ (rjB_len b s h i))
theorem rjB_full (b : List UInt8) (s : List Int × Nat) (h : s.2 = 256) : ∀ i, rjB b s i = s
  | 0 => rfl
  | i + 1 => by rw [rjB_step, rjB_full b s h i, rej_full _ _ h, rej_full _ _ h]
theorem rjB_add (b : List UInt8) (s : List Int × Nat) (i : Nat) (h : (rjB b s i).2 = 256) : ∀ m, rjB b s (i + m) = rjB b s i
  | 0 => rfl
  | m + 1 => by rw [← Nat.add_assoc, rjB_step, rjB_add b s i h m, rej_full _ _ h, rej_full _ _ h]
def unU (c : Nat → List UInt8) : Nat → List Int × Nat
  | 0 => (zero256, 0)
  | k + 1 => rjB (c k) (unU c k) 56
theorem unU_len (c : Nat → List UInt8) : ∀ k, (unU c k).1.length = 256
  | 0 => List.length_replicate
  | k + 1 => by rw [unU]; exact rjB_len _ _ (unU_len c k) _
theorem unU_add (c : Nat → List UInt8) (k : Nat) (h : (unU c k).2 = 256) : ∀ m, unU c (k + m) = unU c k
  | 0 => rfl
  | m + 1 => by rw [← Nat.add_assoc, unU, unU_add c k h m]; exact rjB_full _ _ h _
theorem unU_fin (c : Nat → List UInt8) (k : Nat) (hk : k ≤ 24) (h : k = 24 ∨ (unU c k).2 = 256) : unU c k = unU c 24 := by
  rcases h with h | h
  · rw [h]
  · have := unU_add c k h (24 - k); rw [show k + (24 - k) = 24 by omega] at this; exact this.symm
theorem unU_end (c : Nat → List UInt8) (k i : Nat) (h : i = 56 ∨ (rjB (c k) (unU c k) i).2 = 256) (hi : i ≤ 56) : rjB (c k) (unU c k) i = unU c (k + 1) := by
  rw [unU]
  rcases h with h | h
  · rw [h]
  · have := rjB_add (c k) (unU c k) i h (56 - i); rw [show i + (56 - i) = 56 by omega] at this; exact this.symm
/-- The polynomial of a seed. -/
def uniN (n : Nat) (seed : List UInt8) : List Int := (unU (ch (absR 168 31 noughts seed)) n).1
theorem uniN_len (n : Nat) (seed : List UInt8) : (uniN n seed).length = 256 := by rw [uniN]; exact unU_len _ n
def uni (seed : List UInt8) : List Int := uniN 24 seed
theorem uni_len (seed : List UInt8) : (uni seed).length = 256 := by rw [uni]; exact uniN_len 24 seed
theorem uni_of (seed : List UInt8) (A : List UInt64) (hA : absR 168 31 noughts seed = A) (k : Nat) (hk : k ≤ 24) (s : List Int × Nat) (h : s = unU (ch A) k) (hf : k = 24 ∨ s.2 = 256) : s.1 = uni seed := by
  rw [uni, uniN, hA, h, unU_fin (ch A) k hk (by rw [← h]; exact hf)]
theorem u8_mask15 (x : UInt8) : (x &&& 15).toNat = x.toNat % 16 := by
  rw [UInt8.toNat_and, show (15 : UInt8).toNat = 2 ^ 4 - 1 from rfl, Nat.and_two_pow_sub_one_eq_mod]
theorem u8_shr4 (x : UInt8) : (x >>> UInt8.ofNat 4).toNat = x.toNat / 16 := by
  rw [UInt8.toNat_shiftRight, show (UInt8.ofNat 4).toNat % 8 = 4 from rfl, Nat.shiftRight_eq_div_pow]
theorem lo_eq (b : List UInt8) (i : Nat) : loB b i = (b.getD (3 * i) 0).toNat + 256 * ((b.getD (3 * i + 1) 0).toNat % 16) := by
  have h := (b.getD (3 * i) 0).toNat_lt
  rw [loB, u8_mask15, Nat.or_comm, Nat.mul_comm, ← Nat.two_pow_add_eq_or_of_lt (by simpa using h)]; omega
theorem hi_eq (b : List UInt8) (i : Nat) : hiB b i = (b.getD (3 * i + 1) 0).toNat / 16 + 16 * (b.getD (3 * i + 2) 0).toNat := by
  have h := (b.getD (3 * i + 1) 0).toNat_lt
  rw [hiB, u8_shr4, Nat.or_comm, Nat.mul_comm, ← Nat.two_pow_add_eq_or_of_lt (by omega)]; omega
theorem lo_lt (b : List UInt8) (i : Nat) : loB b i ≤ 4095 := by
  have h := (b.getD (3 * i) 0).toNat_lt; rw [lo_eq]; omega
theorem hi_lt (b : List UInt8) (i : Nat) : hiB b i ≤ 4095 := by
  have h := (b.getD (3 * i + 1) 0).toNat_lt; have h2 := (b.getD (3 * i + 2) 0).toNat_lt; rw [hi_eq]; omega
end Go.Rx

/- WALKS written by gen.py (own program) out of specs. -/
namespace Go.Proofs.YtaignhikdfpbbaaGreatDoor
open Go.RowKit Go.Rx
set_option maxRecDepth 100000
set_option maxHeartbeats 4000000
set_option linter.unusedVariables false
set_option linter.unusedSimpArgs false

theorem zero_50S2 : ∀ w, (zeroValue 50).run Tryz.prog w = .ok (.agg ((List.replicate 256 (0 : Int)).map ei).toArray) w := fun _ => by kernel_rfl
theorem zero_112S2 : ∀ w, (zeroValue 112).run Tryz.prog w = .ok (.agg ((List.replicate 2 (0 : Int)).map ei).toArray) w := fun _ => by kernel_rfl
theorem c_uniform (v : Value) (seed : List UInt8) (w0 : World) (hs : Sl w0 v (seed.map e8)) (hG : Glob w0) :
    Calls Tryz.prog 89 #[v] w0 fun e w' => e = .returned (.agg ((uni seed).map ei).toArray) ∧ Below w0.heap.size w0 w' := by
 refine enter (args := [_]) Tryz.func89 rfl Tryz.ntmps89 rfl ?_
 intro a ha
 have hB := Below.refl w0.heap.size w0
 refine qr fun K1 k2 => ?_
 refine salloc ha zero_50S2 rfl ?_
 intro a w3 b4 ha hg hb4 hge4 hlt4
 have hz4 := Nat.le_trans hB.size hge4
 replace hB := keepB0 hg hB
 refine k2 _ _ ?_
 refine qr fun K5 k6 => ?_
 refine salloc ha zero_50S2 rfl ?_
 intro a w7 b8 ha hg hb8 hge8 hlt8
 have hz8 := Nat.le_trans hB.size hge8
 have hq4_8 := bl hb4 hge8
 replace hB := keepB0 hg hB
 replace hb4 := keepO0 hg hb4
 refine k6 _ _ ?_
 refine qr fun K9 k10 => ?_
 refine s1 ha rfl (mv rfl) ?_; intro a ha
 refine sc ha (r_call ha [v] rfl Tryz.call117) rfl rfl rfl (c_shake128 v seed _ (hs.below hB) (glob_keep hG hB)) ?_
 rintro e w11 ⟨b12, u12, rfl, hBc, hb12, hge12, hs12, hd12, hnx12⟩
 have hg := grown_call hBc
 have hnb_hs12_b4 := nbn hd12 hb4
 have hnb_hs12_b8 := nbn hd12 hb8
 have hz12 := Nat.le_trans hB.size hge12
 have hq4_12 := bl hb4 hge12
 have hq8_12 := bl hb8 hge12
 replace hd12 : ∀ j, u12.ownBlock = some j → w0.heap.size ≤ j := fun j hj => Nat.le_trans hB.size (hd12 j hj)
 replace hB := keepB0 hg hB
 replace hb4 := keepO0 hg hb4
 replace hb8 := keepO0 hg hb8
 refine ⟨_, rfl, ?_⟩; intro a ha
 refine s1 ha rfl (av rfl) ?_; intro a ha
 refine k10 _ _ ?_
 refine qr fun K13 k14 => ?_
 refine s1 ha rfl (av rfl) ?_; intro a ha
 refine k14 _ _ ?_
 refine wp_seq_k fun K15 k16 => ?_
 refine qr fun K17 k18 => ?_
 refine s1 ha rfl (mv rfl) ?_; intro a ha
 refine k18 _ _ ?_
 refine wp_block ?_
 have hLA := absR_len 168 31 seed
 generalize hA : absR 168 31 noughts seed = A at *
 refine loopG (fun (g : Nat × List Int × Nat) a w => ∃ vl : Value, (g.1 ≤ 24) ∧ (g.2.1.length = 256) ∧ (g.2.2 ≤ 256) ∧ (g.2 = unU (ch A) g.1) ∧ (∀ j, vl.ownBlock = some j → w0.heap.size ≤ j) ∧ (∀ j, vl.ownBlock = some j → j ≠ b4) ∧ (∀ j, vl.ownBlock = some j → j ≠ b8) ∧ (∀ j, vl.ownBlock = some j → j ≠ b12) ∧ Has 73 [(2, .pointer (some ⟨b4, 0, none⟩)), (3, .pointer (some ⟨b8, 0, none⟩)), (4, .pointer (some ⟨b12, 0, none⟩)), (13, en g.1), (5, en g.2.2)] a ∧ Below w0.heap.size w0 w ∧ w.heap[b4]? = some (.cells ((List.replicate 256 (0 : Int)).map ei).toArray 50 (0, 0)) ∧ w.heap[b8]? = some (.cells ((g.2.1).map ei).toArray 50 (0, 0)) ∧ w.heap[b12]? = some (.cells (((xU A g.1).1).map e64 ++ [en 168, vl]).toArray 104 (0, 0)) ∧ Sl w vl (((xU A g.1).2).map e8)) (fun g => 24 - g.1) (0, zero256, 0) ⟨u12, (Nat.zero_le _), List.length_replicate, (Nat.zero_le _), (by rw [unU]), hd12, hnb_hs12_b4, hnb_hs12_b8, hnx12, ha.to [2, 3, 4, 13, 5] rfl, hB, hb4, hb8, hb12, (Sl.castM (l := tk A 168) hs12 (by rw [xU_0]))⟩ ?_
 clear ha a hB hb4 hb8 hb12 hs12
 intro g a w19 ⟨vl, hgk, hgl, hgn, hgr, hfr_vl, hnb_vl_b4, hnb_vl_b8, hnb_vl_b12, ha, hB, hb4, hb8, hb12, hsl⟩
 refine qr fun K20 k21 => ?_
 refine s1 ha rfl (fun _ ha => r_lss ha ((g.1 : Nat) : Int) 24 (decide (g.1 < 24)) rfl rfl (decide_eq_decide.2 (by omega))) ?_; intro a ha
 refine k21 _ _ ?_
 refine wp_seq_k fun K22 k23 => ?_
 refine cond_if ha rfl (fun hc24 => ?_) (fun hc24 => ?_)
 ·skip
  replace hc24 := of_decide_eq_true hc24
  refine wp_skip ?_
  refine k23 _ _ ?_
  refine wp_seq_k fun K25 k26 => ?_
  refine wp_block ?_
  refine qr fun K27 k28 => ?_
  refine s1 ha rfl (mv rfl) ?_; intro a ha
  refine sc ha (r_call ha [.pointer (some ⟨b12, 0, none⟩), ei 168] rfl Tryz.call72) rfl rfl rfl (c_read b12 ((xU A g.1).1) 168 vl ((xU A g.1).2) 168 _ hb12 (by rw [xU_len _ hLA]) hsl hnb_vl_b12 (by omega) (xU_le A g.1) (by omega) (fun _ hg => glob_keep hG (keepB1 hg (hz12) hB))) ?_
  rintro e w29 ⟨u30, v30, rfl, hg, hb12', hsv30, hov30, ho30, hds_ho30_hsv30⟩
  have hnb_ho30_b4 := nbn (own_row ho30) hb4
  have hnb_ho30_b8 := nbn (own_row ho30) hb8
  have hnb_ho30_b12 := nbn (own_row ho30) hb12
  have hds_ho30_hsl := nds (own_row ho30) (fun j hj => hsl.lt j hj)
  have hnb_hsv30_b4 : ∀ j, v30.ownBlock = some j → j ≠ b4 := fun j hj => (hov30 j hj).elim (fun h => hnb_vl_b4 j h) (fun h => by have := lt_of_block hb4; omega)
  have hnb_hsv30_b8 : ∀ j, v30.ownBlock = some j → j ≠ b8 := fun j hj => (hov30 j hj).elim (fun h => hnb_vl_b8 j h) (fun h => by have := lt_of_block hb8; omega)
  have hnb_hsv30_b12 : ∀ j, v30.ownBlock = some j → j ≠ b12 := fun j hj => (hov30 j hj).elim (fun h => hnb_vl_b12 j h) (fun h => by have := lt_of_block hb12; omega)
  have hdv30 : ∀ j, v30.ownBlock = some j → w0.heap.size ≤ j := fun j hj => (hov30 j hj).elim (fun h => hfr_vl j h) (fun h => Nat.le_trans hB.size h)
  replace ho30 := own_base ho30 hB.size
  replace hb12 := hb12'
  replace hB := keepB1 hg (by omega) hB
  replace hb4 := keepO1 hg (by omega) hb4
  replace hb8 := keepO1 hg (by omega) hb8
  refine ⟨_, rfl, ?_⟩; intro a ha
  refine s1 ha rfl (av rfl) ?_; intro a ha
  refine k28 _ _ ?_
  refine wp_seq_k fun K31 k32 => ?_
  refine qr fun K33 k34 => ?_
  refine s1 ha rfl (av rfl) ?_; intro a ha
  refine k34 _ _ ?_
  refine wp_block ?_
  have hX := xU_out A hLA g.1
  have hXl : (xrun 168 (168 : Int).toNat ((xU A g.1).1, (xU A g.1).2, [])).2.2.length = 168 := by rw [hX, ch_len]
  generalize hX : (xrun 168 (168 : Int).toNat ((xU A g.1).1, (xU A g.1).2, [])).2.2 = X at *
  refine loopG (fun (y : Nat × List Int × Nat) a w => (y.1 ≤ 56) ∧ (y.2.1.length = 256) ∧ (y.2.2 ≤ 256) ∧ (y.2 = rjB (ch A g.1) g.2 y.1) ∧ Has 73 [(2, .pointer (some ⟨b4, 0, none⟩)), (3, .pointer (some ⟨b8, 0, none⟩)), (4, .pointer (some ⟨b12, 0, none⟩)), (13, en g.1), (6, u30), (7, en (3 * y.1)), (5, en y.2.2)] a ∧ Below w0.heap.size w0 w ∧ w.heap[b4]? = some (.cells ((List.replicate 256 (0 : Int)).map ei).toArray 50 (0, 0)) ∧ w.heap[b8]? = some (.cells ((y.2.1).map ei).toArray 50 (0, 0)) ∧ w.heap[b12]? = some (.cells (((xrun 168 (168 : Int).toNat ((xU A g.1).1, (xU A g.1).2, [])).1).map e64 ++ [en 168, v30]).toArray 104 (0, 0)) ∧ Sl w v30 (((xrun 168 (168 : Int).toNat ((xU A g.1).1, (xU A g.1).2, [])).2.1).map e8) ∧ w.ownsRow w0.heap.size 5 1 u30 X.length (X.map e8)) (fun y => 56 - y.1) (0, g.2) ⟨(Nat.zero_le _), hgl, hgn, (by rw [rjB]), ha.to [2, 3, 4, 13, 6, 7, 5] rfl, hB, hb4, hb8, hb12, hsv30, ho30⟩ ?_
  clear ha a hB hb4 hb8 hb12 hsv30 ho30
  intro y a w35 ⟨hyk, hyl, hyn, hyr, ha, hB, hb4, hb8, hb12, hsv30, ho30⟩
  have hbx1 := (X.getD (3 * y.1) 0).toNat_lt
  have hbx2 := (X.getD (3 * y.1 + 1) 0 &&& 15).toNat_lt
  have hbx3 := (X.getD (3 * y.1 + 1) 0 >>> UInt8.ofNat 4).toNat_lt
  have hbx4 := (X.getD (3 * y.1 + 2) 0).toNat_lt
  refine wp_seq_k fun K36 k37 => ?_
  refine qr fun K38 k39 => ?_
  refine s4 ha rfl (mv rfl) (mv rfl) (fun _ ha => r_lenS ha Tryz.runUnderlying22 (Sl.ofOwns ho30) rfl (by rw [List.length_map])) (fun _ ha => r_lss ha ((3 * y.1 : Nat) : Int) ((X.length : Nat) : Int) (decide (3 * y.1 < X.length)) rfl rfl (decide_eq_decide.2 (by omega))) ?_; intro a ha
  refine k39 _ _ ?_
  refine cond_if ha rfl (fun hc40 => ?_) (fun hc40 => ?_)
  ·skip
   replace hc40 := of_decide_eq_true hc40
   refine wp_skip ?_
   refine k37 _ _ ?_
   refine wp_seq_k fun K41 k42 => ?_
   refine wp_block ?_
   refine wp_seq_k fun K43 k44 => ?_
   refine regionD (S := fun w => Below w0.heap.size w0 w ∧ w.heap[b4]? = some (.cells ((List.replicate 256 (0 : Int)).map ei).toArray 50 (0, 0)) ∧ w.heap[b8]? = some (.cells ((y.2.1).map ei).toArray 50 (0, 0)) ∧ w.heap[b12]? = some (.cells (((xrun 168 (168 : Int).toNat ((xU A g.1).1, (xU A g.1).2, [])).1).map e64 ++ [en 168, v30]).toArray 104 (0, 0)) ∧ Sl w v30 (((xrun 168 (168 : Int).toNat ((xU A g.1).1, (xU A g.1).2, [])).2.1).map e8) ∧ w.ownsRow w0.heap.size 5 1 u30 X.length (X.map e8) ∧ True) [31] [0, 1, 2, 3, 4, 5, 6, 7, 8, 9, 10, 11, 12, 13, 14, 15, 16, 17, 18, 19, 20, 21, 22, 23, 24, 25, 26, 27, 28, 29] [0, 1, 2, 3, 4, 5, 6, 7, 8, 9, 10, 11, 12, 13, 14, 15, 16, 17, 18, 19, 20, 21, 22, 23, 24, 25, 26, 27, 28, 29, 30, 31] mixed (by kernel_rfl) (fun w hg => ⟨keepB0 hg hB, keepO0 hg hb4, keepO0 hg hb8, keepO0 hg hb12, keepS0 hg hsv30, keepW0 hg ho30, trivial⟩) ?_
   intro w45 hg
   replace hB := keepB0 hg hB
   replace hb4 := keepO0 hg hb4
   replace hb8 := keepO0 hg hb8
   replace hb12 := keepO0 hg hb12
   replace hsv30 := keepS0 hg hsv30
   replace ho30 := keepW0 hg ho30
   refine c6 ha rfl (cmv rfl) (cmv rfl) (fun w ⟨_, _, _, _, _, ho30, _⟩ _ ha => r_indexS (i := 3 * y.1) ha Tryz.runUnderlying22 Tryz.sizeOf5 (Sl.ofOwns ho30) (C := (X).map e8) rfl rfl (by rw [List.length_map]; omega)) (fun w ⟨_, _, _, _, _, ho30, _⟩ _ ha => r_loadS ha rfl Tryz.isAgg5 (Sl.ofOwns ho30) (get_map e8 X 0 (3 * y.1) (by omega))) (fun w _ _ ha => r_conv_u8_i64 ha (X.getD (3 * y.1) 0) Tryz.runUnderlying5 Tryz.runUnderlying3 rfl) (cmv rfl) ?_; intro a ha
   refine c6 ha rfl (cmv rfl) (fun w _ _ ha => rn_add ha (3 * y.1) 1 rfl rfl (by omega)) (fun w ⟨_, _, _, _, _, ho30, _⟩ _ ha => r_indexS (i := (3 * y.1) + 1) ha Tryz.runUnderlying22 Tryz.sizeOf5 (Sl.ofOwns ho30) (C := (X).map e8) rfl rfl (by rw [List.length_map]; omega)) (fun w ⟨_, _, _, _, _, ho30, _⟩ _ ha => r_loadS ha rfl Tryz.isAgg5 (Sl.ofOwns ho30) (get_map e8 X 0 ((3 * y.1) + 1) (by omega))) (fun w _ _ ha => rb_and ha (X.getD ((3 * y.1) + 1) 0) (15 : UInt8) rfl rfl) (fun w _ _ ha => r_conv_u8_i64 ha ((X.getD ((3 * y.1) + 1) 0) &&& (15 : UInt8)) Tryz.runUnderlying5 Tryz.runUnderlying3 rfl) ?_; intro a ha
   refine c6 ha rfl (fun w _ _ ha => rn_shl ha (((X.getD ((3 * y.1) + 1) 0) &&& (15 : UInt8)).toNat) 8 rfl rfl (by omega) (by omega)) (fun w _ _ ha => rn_or ha ((X.getD (3 * y.1) 0).toNat) ((((X.getD ((3 * y.1) + 1) 0) &&& (15 : UInt8)).toNat) * 2 ^ 8) rfl rfl (by omega) (by omega)) (cmv rfl) (cmv rfl) (fun w _ _ ha => rn_add ha (3 * y.1) 1 rfl rfl (by omega)) (fun w ⟨_, _, _, _, _, ho30, _⟩ _ ha => r_indexS (i := (3 * y.1) + 1) ha Tryz.runUnderlying22 Tryz.sizeOf5 (Sl.ofOwns ho30) (C := (X).map e8) rfl rfl (by rw [List.length_map]; omega)) ?_; intro a ha
   refine c6 ha rfl (fun w ⟨_, _, _, _, _, ho30, _⟩ _ ha => r_loadS ha rfl Tryz.isAgg5 (Sl.ofOwns ho30) (get_map e8 X 0 ((3 * y.1) + 1) (by omega))) (fun w _ _ ha => rb_shr ha (X.getD ((3 * y.1) + 1) 0) 4 rfl rfl (by omega)) (fun w _ _ ha => r_conv_u8_i64 ha ((X.getD ((3 * y.1) + 1) 0) >>> UInt8.ofNat 4) Tryz.runUnderlying5 Tryz.runUnderlying3 rfl) (cmv rfl) (cmv rfl) (fun w _ _ ha => rn_add ha (3 * y.1) 2 rfl rfl (by omega)) ?_; intro a ha
   refine c5 ha rfl (fun w ⟨_, _, _, _, _, ho30, _⟩ _ ha => r_indexS (i := (3 * y.1) + 2) ha Tryz.runUnderlying22 Tryz.sizeOf5 (Sl.ofOwns ho30) (C := (X).map e8) rfl rfl (by rw [List.length_map]; omega)) (fun w ⟨_, _, _, _, _, ho30, _⟩ _ ha => r_loadS ha rfl Tryz.isAgg5 (Sl.ofOwns ho30) (get_map e8 X 0 ((3 * y.1) + 2) (by omega))) (fun w _ _ ha => r_conv_u8_i64 ha (X.getD ((3 * y.1) + 2) 0) Tryz.runUnderlying5 Tryz.runUnderlying3 rfl) (fun w _ _ ha => rn_shl ha ((X.getD ((3 * y.1) + 2) 0).toNat) 4 rfl rfl (by omega) (by omega)) (fun w _ _ ha => rn_or ha (((X.getD ((3 * y.1) + 1) 0) >>> UInt8.ofNat 4).toNat) (((X.getD ((3 * y.1) + 2) 0).toNat) * 2 ^ 4) rfl rfl (by omega) (by omega)) ?_; intro a ha
   refine cv ha rfl rfl (fun w _ => r_build (Z := (List.replicate 2 (0 : Int)).map ei) (C := (([((((X.getD (3 * y.1) 0).toNat) ||| ((((X.getD ((3 * y.1) + 1) 0) &&& (15 : UInt8)).toNat) * 2 ^ 8) : Nat) : Int), (((((X.getD ((3 * y.1) + 1) 0) >>> UInt8.ofNat 4).toNat) ||| (((X.getD ((3 * y.1) + 2) 0).toNat) * 2 ^ 4) : Nat) : Int)] : List Int)).map ei) ha _ [(0, en (((X.getD (3 * y.1) 0).toNat) ||| ((((X.getD ((3 * y.1) + 1) 0) &&& (15 : UInt8)).toNat) * 2 ^ 8))), (1, en ((((X.getD ((3 * y.1) + 1) 0) >>> UInt8.ofNat 4).toNat) ||| (((X.getD ((3 * y.1) + 2) 0).toNat) * 2 ^ 4)))] rfl zero_112S2 Tryz.runUnderlying112 Tryz.sizeOf3 rfl) rfl rfl rfl ?_; intro a ha
   refine calloc ha rfl rfl zero_112S2 rfl (fun w hg => ⟨keepB0 hg hB, keepO0 hg hb4, keepO0 hg hb8, keepO0 hg hb12, keepS0 hg hsv30, keepW0 hg ho30, trivial⟩) ?_
   intro a w46 b47 ha hg hb47 hge47 hlt47
   have hz47 := Nat.le_trans hB.size hge47
   have hne_hsv30_b47 : ∀ j, Value.ownBlock v30 = some j → j ≠ b47 := fun j hj => by have := hsv30.lt j hj; omega
   have hne_ho30_b47 : ∀ j, Value.ownBlock u30 = some j → j ≠ b47 := fun j hj => by have := (ho30.lt j hj).2; omega
   have hq4_47 := bl hb4 hge47
   have hq8_47 := bl hb8 hge47
   have hq12_47 := bl hb12 hge47
   replace hB := keepB0 hg hB
   replace hb4 := keepO0 hg hb4
   replace hb8 := keepO0 hg hb8
   replace hb12 := keepO0 hg hb12
   replace hsv30 := keepS0 hg hsv30
   replace ho30 := keepW0 hg ho30
   refine cstoreW ha rfl rfl rfl rfl (one_ei _) Tryz.sizeOf112 (by rw [List.length_map, show List.length ([((((X.getD (3 * y.1) 0).toNat) ||| ((((X.getD ((3 * y.1) + 1) 0) &&& (15 : UInt8)).toNat) * 2 ^ 8) : Nat) : Int), (((((X.getD ((3 * y.1) + 1) 0) >>> UInt8.ofNat 4).toNat) ||| (((X.getD ((3 * y.1) + 2) 0).toNat) * 2 ^ 4) : Nat) : Int)] : List Int) = 2 from rfl]) hb47 (by rw [List.length_map, List.length_replicate]) rfl ?_
   intro a w48 ha hg hb47'
   replace hb47 := hb47'
   have hb47 : w48.heap[b47]? = some (.cells ((pcd X y.1).map ei).toArray 112 (0, 0)) := hb47
   replace hB := keepB1 hg (by omega) hB
   replace hb4 := keepO1 hg (by omega) hb4
   replace hb8 := keepO1 hg (by omega) hb8
   replace hb12 := keepO1 hg (by omega) hb12
   replace hsv30 := keepS1 hg (ne_of_ap hne_hsv30_b47) hsv30
   replace ho30 := keepW1 hg (ne_of_ap hne_ho30_b47) ho30
   refine cfin (k44 _ _ ?_)
   refine qr fun K49 k50 => ?_
   refine s2 ha rfl (fun _ ha => r_loadR ha rfl Tryz.isAgg112 Tryz.sizeOf112 (C := (pcd X y.1).map ei) (by rw [List.length_map, pcd_len _ _]) (cells_all hb47)) (mv rfl) ?_; intro a ha
   refine k50 _ _ ?_
   refine wp_block ?_
   refine loopG (fun (z : Nat × List Int × Nat) a w => (z.1 ≤ 2) ∧ (z.2.1.length = 256) ∧ (z.2.2 ≤ 256) ∧ (z.2 = rjC (pcd X y.1) y.2 z.1) ∧ Has 73 [(2, .pointer (some ⟨b4, 0, none⟩)), (3, .pointer (some ⟨b8, 0, none⟩)), (4, .pointer (some ⟨b12, 0, none⟩)), (13, en g.1), (6, u30), (7, en (3 * y.1)), (23, u30), (24, en (3 * y.1)), (25, ptrOf u30 (3 * y.1)), (26, e8 (X.getD (3 * y.1) 0)), (27, en ((X.getD (3 * y.1) 0).toNat)), (28, u30), (29, en (3 * y.1)), (30, en ((3 * y.1) + 1)), (31, ptrOf u30 ((3 * y.1) + 1)), (32, e8 (X.getD ((3 * y.1) + 1) 0)), (33, e8 ((X.getD ((3 * y.1) + 1) 0) &&& (15 : UInt8))), (34, en (((X.getD ((3 * y.1) + 1) 0) &&& (15 : UInt8)).toNat)), (35, en ((((X.getD ((3 * y.1) + 1) 0) &&& (15 : UInt8)).toNat) * 2 ^ 8)), (36, en (((X.getD (3 * y.1) 0).toNat) ||| ((((X.getD ((3 * y.1) + 1) 0) &&& (15 : UInt8)).toNat) * 2 ^ 8))), (37, u30), (38, en (3 * y.1)), (39, en ((3 * y.1) + 1)), (40, ptrOf u30 ((3 * y.1) + 1)), (41, e8 (X.getD ((3 * y.1) + 1) 0)), (42, e8 ((X.getD ((3 * y.1) + 1) 0) >>> UInt8.ofNat 4)), (43, en (((X.getD ((3 * y.1) + 1) 0) >>> UInt8.ofNat 4).toNat)), (44, u30), (45, en (3 * y.1)), (46, en ((3 * y.1) + 2)), (47, ptrOf u30 ((3 * y.1) + 2)), (48, e8 (X.getD ((3 * y.1) + 2) 0)), (49, en ((X.getD ((3 * y.1) + 2) 0).toNat)), (50, en (((X.getD ((3 * y.1) + 2) 0).toNat) * 2 ^ 4)), (51, en ((((X.getD ((3 * y.1) + 1) 0) >>> UInt8.ofNat 4).toNat) ||| (((X.getD ((3 * y.1) + 2) 0).toNat) * 2 ^ 4))), (52, .agg ((([((((X.getD (3 * y.1) 0).toNat) ||| ((((X.getD ((3 * y.1) + 1) 0) &&& (15 : UInt8)).toNat) * 2 ^ 8) : Nat) : Int), (((((X.getD ((3 * y.1) + 1) 0) >>> UInt8.ofNat 4).toNat) ||| (((X.getD ((3 * y.1) + 2) 0).toNat) * 2 ^ 4) : Nat) : Int)] : List Int)).map ei).toArray), (8, .pointer (some ⟨b47, 0, none⟩)), (53, .agg ((pcd X y.1).map ei).toArray), (54, en z.1), (5, en z.2.2)] a ∧ Below w0.heap.size w0 w ∧ w.heap[b4]? = some (.cells ((List.replicate 256 (0 : Int)).map ei).toArray 50 (0, 0)) ∧ w.heap[b8]? = some (.cells ((z.2.1).map ei).toArray 50 (0, 0)) ∧ w.heap[b12]? = some (.cells (((xrun 168 (168 : Int).toNat ((xU A g.1).1, (xU A g.1).2, [])).1).map e64 ++ [en 168, v30]).toArray 104 (0, 0)) ∧ w.heap[b47]? = some (.cells ((pcd X y.1).map ei).toArray 112 (0, 0)) ∧ Sl w v30 (((xrun 168 (168 : Int).toNat ((xU A g.1).1, (xU A g.1).2, [])).2.1).map e8) ∧ w.ownsRow w0.heap.size 5 1 u30 X.length (X.map e8)) (fun z => 2 - z.1) (0, y.2) ⟨(Nat.zero_le _), hyl, hyn, (by rw [rjC]), ha.to [2, 3, 4, 13, 6, 7, 23, 24, 25, 26, 27, 28, 29, 30, 31, 32, 33, 34, 35, 36, 37, 38, 39, 40, 41, 42, 43, 44, 45, 46, 47, 48, 49, 50, 51, 52, 8, 53, 54, 5] rfl, hB, hb4, hb8, hb12, hb47, hsv30, ho30⟩ ?_
   clear ha a hB hb4 hb8 hb12 hb47 hsv30 ho30
   intro z a w51 ⟨hzk, hzl, hzn, hzr, ha, hB, hb4, hb8, hb12, hb47, hsv30, ho30⟩
   refine qr fun K52 k53 => ?_
   refine s1 ha rfl (fun _ ha => r_lss ha ((z.1 : Nat) : Int) 2 (decide (z.1 < 2)) rfl rfl (decide_eq_decide.2 (by omega))) ?_; intro a ha
   refine k53 _ _ ?_
   refine wp_seq_k fun K54 k55 => ?_
   refine cond_if ha rfl (fun hc56 => ?_) (fun hc56 => ?_)
   ·skip
    replace hc56 := of_decide_eq_true hc56
    refine wp_skip ?_
    refine k55 _ _ ?_
    refine wp_seq_k fun K57 k58 => ?_
    refine wp_block ?_
    refine qr fun K59 k60 => ?_
    refine s2 ha rfl (fun _ ha => r_index (C := (pcd X y.1).map ei) ha z.1 rfl rfl Tryz.runUnderlying112 Tryz.sizeOf3 Tryz.isAgg3 (by omega) (get_map ei (pcd X y.1) 0 z.1 (by rw [pcd_len _ _]; omega))) (av rfl) ?_; intro a ha
    refine k60 _ _ ?_
    refine qr fun K61 k62 => ?_
    refine s3 ha rfl (mv rfl) (fun _ ha => r_lss ha ((pcd X y.1).getD z.1 0) 3329 (decide ((pcd X y.1).getD z.1 0 < 3329)) rfl rfl (decide_eq_decide.2 (by omega))) (mv rfl) ?_; intro a ha
    cases hq63 : (decide ((pcd X y.1).getD z.1 0 < 3329))
    all_goals rw [hq63] at ha
    case false =>
     replace hq63 := of_decide_eq_false hq63
     refine sno ha rfl rfl rfl rfl rfl rfl ?_; intro a ha
     refine sno ha rfl rfl rfl rfl rfl rfl ?_; intro a ha
     refine s1 ha rfl (fun _ ha => r_pick ha false rfl rfl) ?_; intro a ha
     refine k62 _ _ ?_
     refine cond_f ha rfl ?_
     refine wp_skip ?_
     refine k58 _ _ ?_
     refine region ?_
     refine s2 ha rfl (fun _ ha => rn_add ha z.1 1 rfl rfl (by omega)) (mv rfl) ?_; intro a ha
     exact ⟨(z.1 + 1, z.2.1, z.2.2), (by show 2 - (z.1 + 1) < 2 - z.1; omega), (by show z.1 + 1 ≤ 2; omega), (by first | exact hzl | (show (List.set _ _ _).length = 256; rw [List.length_set]; exact hzl)), (by first | exact hzn | (show z.2.2 + 1 ≤ 256; omega)), (by rw [rjC, ← hzr, rej]; first | (rw [if_pos (by omega)]; done) | (rw [if_neg (by omega)]; done)), ha.to [2, 3, 4, 13, 6, 7, 23, 24, 25, 26, 27, 28, 29, 30, 31, 32, 33, 34, 35, 36, 37, 38, 39, 40, 41, 42, 43, 44, 45, 46, 47, 48, 49, 50, 51, 52, 8, 53, 54, 5] rfl, hB, hb4, hb8, hb12, hb47, hsv30, ho30⟩
    case true =>
     replace hq63 := of_decide_eq_true hq63
     refine svg ha (r_move ha rfl) rfl rfl rfl rfl rfl ?_; intro a ha
     refine svg ha (r_lss ha ((z.2.2 : Nat) : Int) 256 (decide (z.2.2 < 256)) rfl rfl (decide_eq_decide.2 (by omega))) rfl rfl rfl rfl rfl ?_; intro a ha
     refine s1 ha rfl (fun _ ha => r_pick ha true rfl rfl) ?_; intro a ha
     refine k62 _ _ ?_
     refine cond_if ha rfl (fun hc64 => ?_) (fun hc64 => ?_)
     ·skip
      replace hc64 := of_decide_eq_true hc64
      refine qr fun K65 k66 => ?_
      refine s3 ha rfl (mv rfl) (mv rfl) (fun _ ha => r_indexArr (i := z.2.2) ha z.2.2 Tryz.runUnderlying50 Tryz.sizeOf3 rfl rfl (by omega) (by omega)) ?_; intro a ha
      refine sstore ha (v := ei ((pcd X y.1).getD z.1 0)) rfl rfl rfl rfl Tryz.sizeOf3 hb8 (by rw [List.length_map, hzl]; omega) ?_
      intro a w67 ha hg hb8'
      rw [set_map] at hb8'
      replace hb8 := hb8'
      replace hB := keepB1 hg (by omega) hB
      replace hb4 := keepO1 hg (by omega) hb4
      replace hb12 := keepO1 hg (by omega) hb12
      replace hb47 := keepO1 hg (by omega) hb47
      replace hsv30 := keepS1 hg (ne_of_ap hnb_hsv30_b8) hsv30
      replace ho30 := keepW1 hg (ne_of_ap hnb_ho30_b8) ho30
      refine k66 _ _ ?_
      refine region ?_
      refine s3 ha rfl (mv rfl) (fun _ ha => rn_add ha z.2.2 1 rfl rfl (by omega)) (av rfl) ?_; intro a ha
      refine k58 _ _ ?_
      refine region ?_
      refine s2 ha rfl (fun _ ha => rn_add ha z.1 1 rfl rfl (by omega)) (mv rfl) ?_; intro a ha
      exact ⟨(z.1 + 1, z.2.1.set z.2.2 ((pcd X y.1).getD z.1 0), z.2.2 + 1), (by show 2 - (z.1 + 1) < 2 - z.1; omega), (by show z.1 + 1 ≤ 2; omega), (by first | exact hzl | (show (List.set _ _ _).length = 256; rw [List.length_set]; exact hzl)), (by first | exact hzn | (show z.2.2 + 1 ≤ 256; omega)), (by rw [rjC, ← hzr, rej]; first | (rw [if_pos (by omega)]; done) | (rw [if_neg (by omega)]; done)), ha.to [2, 3, 4, 13, 6, 7, 23, 24, 25, 26, 27, 28, 29, 30, 31, 32, 33, 34, 35, 36, 37, 38, 39, 40, 41, 42, 43, 44, 45, 46, 47, 48, 49, 50, 51, 52, 8, 53, 54, 5] rfl, hB, hb4, hb8, hb12, hb47, hsv30, ho30⟩
     ·skip
      replace hc64 := of_decide_eq_false hc64
      refine wp_skip ?_
      refine k58 _ _ ?_
      refine region ?_
      refine s2 ha rfl (fun _ ha => rn_add ha z.1 1 rfl rfl (by omega)) (mv rfl) ?_; intro a ha
      exact ⟨(z.1 + 1, z.2.1, z.2.2), (by show 2 - (z.1 + 1) < 2 - z.1; omega), (by show z.1 + 1 ≤ 2; omega), (by first | exact hzl | (show (List.set _ _ _).length = 256; rw [List.length_set]; exact hzl)), (by first | exact hzn | (show z.2.2 + 1 ≤ 256; omega)), (by rw [rjC, ← hzr, rej]; first | (rw [if_pos (by omega)]; done) | (rw [if_neg (by omega)]; done)), ha.to [2, 3, 4, 13, 6, 7, 23, 24, 25, 26, 27, 28, 29, 30, 31, 32, 33, 34, 35, 36, 37, 38, 39, 40, 41, 42, 43, 44, 45, 46, 47, 48, 49, 50, 51, 52, 8, 53, 54, 5] rfl, hB, hb4, hb8, hb12, hb47, hsv30, ho30⟩
   ·skip
    replace hc56 := of_decide_eq_false hc56
    refine wp_exit ?_
    have hz1 : z.1 = 2 := by omega
    refine k42 _ _ ?_
    refine region ?_
    refine s3 ha rfl (mv rfl) (fun _ ha => rn_add ha (3 * y.1) 3 rfl rfl (by omega)) (av rfl) ?_; intro a ha
    exact ⟨(y.1 + 1, z.2), (by show 56 - (y.1 + 1) < 56 - y.1; omega), (by show y.1 + 1 ≤ 56; omega), hzl, hzn, (by show z.2 = _; rw [hzr, hz1, hyr, rjB, hX]), ha.to [2, 3, 4, 13, 6, 7, 5] rfl, hB, hb4, hb8, hb12, hsv30, ho30⟩
  ·skip
   replace hc40 := of_decide_eq_false hc40
   refine wp_exit ?_
   refine k32 _ _ ?_
   refine qr fun K68 k69 => ?_
   refine s2 ha rfl (mv rfl) (fun _ ha => r_eql ha ((y.2.2 : Nat) : Int) 256 (decide (y.2.2 = 256)) rfl rfl (decide_eq_decide.2 (by omega))) ?_; intro a ha
   refine k69 _ _ ?_
   refine cond_if ha rfl (fun hc70 => ?_) (fun hc70 => ?_)
   ·skip
    replace hc70 := of_decide_eq_true hc70
    refine wp_exit ?_
    refine k16 _ _ ?_
    refine qr fun K71 k72 => ?_
    refine s1 ha rfl (fun _ ha => r_loadR ha rfl Tryz.isAgg50 Tryz.sizeOf50 (C := (y.2.1).map ei) (by rw [List.length_map, hyl]) (cells_all hb8)) ?_; intro a ha
    refine sstoreW ha rfl rfl (one_ei _) Tryz.sizeOf50 (by rw [List.length_map, hyl]) hb4 (by rw [List.length_map, List.length_replicate]) ?_
    intro a w73 ha hg hb4'
    replace hb4 := hb4'
    replace hB := keepB1 hg (by omega) hB
    replace hb8 := keepO1 hg (by omega) hb8
    refine k72 _ _ ?_
    refine wp_ret ?_
    exact retC _ ha Tryz.results89 rfl hb4 Tryz.underlying50 rfl (by rw [List.length_map, hyl]; kernel_rfl) ⟨(congrArg (fun l : List Int => Ending.returned (Value.agg (l.map ei).toArray)) (by first | exact uni_of seed A hA (g.1 + 1) (by omega) y.2 (by rw [hyr, hgr]; exact unU_end _ _ _ (.inl (by omega)) (by omega)) (.inr (by omega)) | exact uni_of seed A hA g.1 (by omega) g.2 hgr (.inl (by omega)))), hB⟩
   ·skip
    replace hc70 := of_decide_eq_false hc70
    refine wp_skip ?_
    refine k26 _ _ ?_
    refine region ?_
    refine s2 ha rfl (fun _ ha => rn_add ha g.1 1 rfl rfl (by omega)) (mv rfl) ?_; intro a ha
    exact ⟨(g.1 + 1, y.2), (by show 24 - (g.1 + 1) < 24 - g.1; omega), v30, (by show g.1 + 1 ≤ 24; omega), hyl, hyn, (by show y.2 = _; rw [hyr, hgr]; exact unU_end _ _ _ (.inl (by omega)) (by omega)), hdv30, hnb_hsv30_b4, hnb_hsv30_b8, hnb_hsv30_b12, ha.to [2, 3, 4, 13, 5] rfl, hB, hb4, hb8, (by rw [← xU_sa _ hLA]; exact hb12), (Sl.castM (l := (xrun 168 (168 : Int).toNat ((xU A g.1).1, (xU A g.1).2, [])).2.1) hsv30 (xU_sl _ hLA _))⟩
 ·skip
  replace hc24 := of_decide_eq_false hc24
  refine wp_exit ?_
  refine k16 _ _ ?_
  refine qr fun K74 k75 => ?_
  refine s1 ha rfl (fun _ ha => r_loadR ha rfl Tryz.isAgg50 Tryz.sizeOf50 (C := (g.2.1).map ei) (by rw [List.length_map, hgl]) (cells_all hb8)) ?_; intro a ha
  refine sstoreW ha rfl rfl (one_ei _) Tryz.sizeOf50 (by rw [List.length_map, hgl]) hb4 (by rw [List.length_map, List.length_replicate]) ?_
  intro a w76 ha hg hb4'
  replace hb4 := hb4'
  replace hB := keepB1 hg (by omega) hB
  replace hb8 := keepO1 hg (by omega) hb8
  refine k75 _ _ ?_
  refine wp_ret ?_
  exact retC _ ha Tryz.results89 rfl hb4 Tryz.underlying50 rfl (by rw [List.length_map, hgl]; kernel_rfl) ⟨(congrArg (fun l : List Int => Ending.returned (Value.agg (l.map ei).toArray)) (by first | exact uni_of seed A hA (g.1 + 1) (by omega) y.2 (by rw [hyr, hgr]; exact unU_end _ _ _ (.inl (by omega)) (by omega)) (.inr (by omega)) | exact uni_of seed A hA g.1 (by omega) g.2 hgr (.inl (by omega)))), hB⟩
end Go.Proofs.YtaignhikdfpbbaaGreatDoor

/- Plain functions: the document's bits of polynomials, and that they are the program's. -/
namespace Go.Rx
def nbits (n : Nat) : Nat → List Nat
  | 0 => []
  | j + 1 => nbits n j ++ [n / 2 ^ j % 2]
theorem nbits_len (n : Nat) : ∀ j, (nbits n j).length = j
  | 0 => rfl
  | j + 1 => by rw [nbits, List.length_append, nbits_len n j]; rfl
theorem getD_app_lt {α : Type} (a b : List α) (i : Nat) (d : α) (h : i < a.length) : (a ++ b).getD i d = a.getD i d := by
  simp only [List.getD_eq_getElem?_getD, List.getElem?_append_left h]
theorem getD_app_ge {α : Type} (a b : List α) (i : Nat) (d : α) (h : a.length ≤ i) : (a ++ b).getD i d = b.getD (i - a.length) d := by
  simp only [List.getD_eq_getElem?_getD, List.getElem?_append_right h]
theorem nbits_get (n : Nat) : ∀ j i, i < j → (nbits n j).getD i 0 = n / 2 ^ i % 2
  | 0, i, h => by omega
  | j + 1, i, h => by
    have hl := nbits_len n j
    rw [nbits]
    rcases Nat.lt_or_ge i j with h1 | h1
    · rw [getD_app_lt _ _ _ _ (by omega)]; exact nbits_get n j i h1
    · obtain rfl : i = j := by omega
      rw [getD_app_ge _ _ _ _ (by omega), hl, Nat.sub_self]; rfl
theorem nbits_app (o : List Nat) (n j : Nat) : (o ++ nbits n j) ++ [n / 2 ^ j % 2] = o ++ nbits n (j + 1) := by rw [nbits, List.append_assoc]
theorem half_pow (c j : Nat) : c / 2 ^ j / 2 = c / 2 ^ (j + 1) := by rw [Nat.div_div_eq_div_mul, Nat.pow_succ]
def bbA (b : List UInt8) : Nat → List Nat
  | 0 => []
  | i + 1 => bbA b i ++ nbits (b.getD i 0).toNat 8
theorem bbA_len (b : List UInt8) : ∀ i, (bbA b i).length = 8 * i
  | 0 => rfl
  | i + 1 => by rw [bbA, List.length_append, bbA_len b i, nbits_len]; omega
theorem bbA_get (b : List UInt8) : ∀ i k, k < 8 * i → (bbA b i).getD k 0 = bitN b k
  | 0, k, h => by omega
  | i + 1, k, h => by
    have hl := bbA_len b i
    rw [bbA]
    rcases Nat.lt_or_ge k (8 * i) with h1 | h1
    · rw [getD_app_lt _ _ _ _ (by omega)]; exact bbA_get b i k h1
    · rw [getD_app_ge _ _ _ _ (by omega), hl, nbits_get _ _ _ (by omega), bitN, show k / 8 = i by omega, show k - 8 * i = k % 8 by omega]
def rbits (b : List UInt8) : List Nat := bbA b b.length
theorem rbits_len (b : List UInt8) : (rbits b).length = 8 * b.length := bbA_len b _
theorem rbits_get (b : List UInt8) (k : Nat) (h : k < 8 * b.length) : (rbits b).getD k 0 = bitN b k := bbA_get b _ k h
/-- Rows of bits. -/
def Bt (l : List Nat) : Prop := ∀ k, l.getD k 0 ≤ 1
theorem Bt.app {a b : List Nat} (ha : Bt a) (hb : Bt b) : Bt (a ++ b) := fun k => by
  rcases Nat.lt_or_ge k a.length with h | h
  · rw [getD_app_lt _ _ _ _ h]; exact ha k
  · rw [getD_app_ge _ _ _ _ h]; exact hb _
theorem Bt.nil : Bt [] := fun k => by simp
theorem Bt.nbits (n : Nat) : ∀ j, Bt (nbits n j)
  | 0 => Bt.nil
  | j + 1 => by
    rw [Rx.nbits]
    refine (Bt.nbits n j).app fun k => ?_
    have h2 := Nat.mod_lt (n / 2 ^ j) (show 0 < 2 by omega)
    cases k with
    | zero => show n / 2 ^ j % 2 ≤ 1; omega
    | succ k => simp
theorem bbA_bt (b : List UInt8) : ∀ i, Bt (bbA b i)
  | 0 => Bt.nil
  | i + 1 => by rw [bbA]; exact (bbA_bt b i).app (Bt.nbits _ _)
theorem rbits_bt (b : List UInt8) : Bt (rbits b) := bbA_bt b _
/-- A number by its bits, from the highest one on. -/
def horD (l : List Nat) (o D : Nat) : Nat → Nat
  | 0 => 0
  | m + 1 => horD l o D m * 2 + l.getD (o + (D - 1 - m)) 0
theorem horD_lt (l : List Nat) (hl : Bt l) (o D : Nat) : ∀ m, horD l o D m < 2 ^ m
  | 0 => by simp [horD]
  | m + 1 => by have h1 := horD_lt l hl o D m; have h2 := hl (o + (D - 1 - m)); rw [horD, Nat.pow_succ]; omega
theorem horD_le (l : List Nat) (hl : Bt l) (o D m : Nat) (h : m ≤ 12) : horD l o D m ≤ 4095 := by
  have h1 := horD_lt l hl o D m
  have h2 : 2 ^ m ≤ 2 ^ 12 := Nat.pow_le_pow_right (by omega) h
  omega
def btL (l : List Nat) (o : Nat) : Nat → Nat
  | 0 => 0
  | j + 1 => btL l o j + l.getD (o + j) 0 * 2 ^ j
theorem hor_bt (l : List Nat) (o D : Nat) : ∀ m, m ≤ D → horD l o D m * 2 ^ (D - m) + btL l o (D - m) = btL l o D
  | 0, _ => by rw [horD, Nat.zero_mul, Nat.zero_add, Nat.sub_zero]
  | m + 1, h => by
    have ih := hor_bt l o D m (by omega)
    have e : D - m = (D - (m + 1)) + 1 := by omega
    have e2 : D - 1 - m = D - (m + 1) := by omega
    rw [← ih, e, horD, btL, e2, Nat.pow_succ, Nat.add_mul]
    have : horD l o D m * 2 * 2 ^ (D - (m + 1)) = horD l o D m * (2 ^ (D - (m + 1)) * 2) := by rw [Nat.mul_assoc, Nat.mul_comm 2]
    omega
theorem hor_eq (l : List Nat) (o D : Nat) : horD l o D D = btL l o D := by
  have := hor_bt l o D D (Nat.le_refl _); rw [Nat.sub_self, btL] at this; omega
theorem bt_bitL (l : List Nat) (hl : Bt l) (o : Nat) : ∀ n, btL l o n < 2 ^ n ∧ ∀ j, j < n → btL l o n / 2 ^ j % 2 = l.getD (o + j) 0
  | 0 => ⟨by simp [btL], fun j h => by omega⟩
  | n + 1 => by
    obtain ⟨h1, h2⟩ := bt_bitL l hl o n
    have hb := hl (o + n)
    have h3 : l.getD (o + n) 0 * 2 ^ n ≤ 1 * 2 ^ n := Nat.mul_le_mul_right _ hb
    refine ⟨by rw [btL, Nat.pow_succ]; omega, fun j hj => ?_⟩
    rw [btL]
    rcases Nat.lt_or_ge j n with h | h
    · rw [← h2 j h]
      have e : l.getD (o + n) 0 * 2 ^ n = 2 ^ j * (2 * (l.getD (o + n) 0 * 2 ^ (n - j - 1))) := by
        have : 2 ^ n = 2 ^ j * (2 * 2 ^ (n - j - 1)) := by rw [Nat.mul_comm 2, ← Nat.pow_succ, ← Nat.pow_add]; congr 1; omega
        rw [this, ← Nat.mul_assoc, Nat.mul_comm _ (2 ^ j), Nat.mul_assoc, ← Nat.mul_assoc _ 2, Nat.mul_comm _ 2, Nat.mul_assoc]
      rw [e, Nat.add_mul_div_left _ _ (Nat.two_pow_pos j), Nat.add_mul_mod_self_left]
    · obtain rfl : j = n := by omega
      rw [Nat.mul_comm, Nat.add_mul_div_left _ _ (Nat.two_pow_pos j), Nat.div_eq_of_lt h1]; omega
theorem btL_btA (b : List UInt8) (o : Nat) : ∀ n, o + n ≤ 8 * b.length → btL (rbits b) o n = btA b o n
  | 0, _ => rfl
  | n + 1, h => by rw [btL, btA, btL_btA b o n (by omega), rbits_get b _ (by omega)]
theorem bt_bit (b : List UInt8) (o : Nat) : ∀ n, ∀ j, j < n → btA b o n / 2 ^ j % 2 = bitN b (o + j)
  | 0 => fun j h => by omega
  | n + 1 => fun j hj => by
    have h1 := btA_lt b o n
    rw [btA]
    rcases Nat.lt_or_ge j n with h | h
    · rw [← bt_bit b o n j h]
      have e : bitN b (o + n) * 2 ^ n = 2 ^ j * (2 * (bitN b (o + n) * 2 ^ (n - j - 1))) := by
        have : 2 ^ n = 2 ^ j * (2 * 2 ^ (n - j - 1)) := by rw [Nat.mul_comm 2, ← Nat.pow_succ, ← Nat.pow_add]; congr 1; omega
        rw [this, ← Nat.mul_assoc, Nat.mul_comm _ (2 ^ j), Nat.mul_assoc, ← Nat.mul_assoc _ 2, Nat.mul_comm _ 2, Nat.mul_assoc]
      rw [e, Nat.add_mul_div_left _ _ (Nat.two_pow_pos j), Nat.add_mul_mod_self_left]
    · obtain rfl : j = n := by omega
      have := bitN_lt b (o + j)
      rw [Nat.mul_comm, Nat.add_mul_div_left _ _ (Nat.two_pow_pos j), Nat.div_eq_of_lt h1]; omega
/-! ### Small polynomials -/
def sumB (b : List UInt8) (o : Nat) : Nat → Nat
  | 0 => 0
  | j + 1 => sumB b o j + bitN b (o + j)
theorem sumB_le (b : List UInt8) (o : Nat) : ∀ j, sumB b o j ≤ j
  | 0 => Nat.le_refl _
  | j + 1 => by have := sumB_le b o j; have := bitN_lt b (o + j); rw [sumB]; omega
theorem pcA_sum (b : List UInt8) (o n : Nat) : ∀ j, j ≤ n → pcA (btA b o n) j = sumB b o j
  | 0, _ => rfl
  | j + 1, h => by rw [pcA, sumB, pcA_sum b o n j (by omega), shA_eq, bt_bit b o n j (by omega)]
theorem ones_sum (b : List UInt8) (o n : Nat) (hn : n ≤ 12) : onesN b o n = sumB b o n := by
  have h0 : shA (btA b o n) n = 0 := by rw [shA_eq]; exact Nat.div_eq_of_lt (btA_lt b o n)
  have := (pcA_more (btA b o n) n h0 (12 - n)).1
  rw [show n + (12 - n) = 12 by omega, pcA_sum b o n n (Nat.le_refl _)] at this
  rw [onesN, pc, this]
def noE (l : List Nat) (o eta : Nat) : Nat → Int
  | 0 => 3329
  | j + 1 => noE l o eta j + (((l.getD (o + j) 0 : Nat) : Int) - ((l.getD (o + eta + j) 0 : Nat) : Int))
theorem noE_le (l : List Nat) (hl : Bt l) (o eta : Nat) : ∀ j : Nat, 3329 - (j : Int) ≤ noE l o eta j ∧ noE l o eta j ≤ 3329 + (j : Int)
  | 0 => by rw [noE]; omega
  | j + 1 => by have h := noE_le l hl o eta j; have h1 := hl (o + j); have h2 := hl (o + eta + j); rw [noE]; omega
def rnA (l : List Nat) (eta : Nat) : Nat → List Int
  | 0 => zero256
  | i + 1 => (rnA l eta i).set i ((noE l (2 * i * eta) eta eta).tmod 3329)
theorem rnA_len (l : List Nat) (eta : Nat) : ∀ i, (rnA l eta i).length = 256
  | 0 => List.length_replicate
  | i + 1 => by rw [rnA, List.length_set]; exact rnA_len l eta i
theorem noE_sum (b : List UInt8) (o eta : Nat) (h : o + 2 * eta ≤ 8 * b.length) : ∀ j, j ≤ eta → noE (rbits b) o eta j = 3329 + ((sumB b o j : Nat) : Int) - ((sumB b (o + eta) j : Nat) : Int)
  | 0, _ => by rw [noE, sumB, sumB]; omega
  | j + 1, hj => by rw [noE, sumB, sumB, noE_sum b o eta h j (by omega), rbits_get b _ (by omega), rbits_get b _ (by omega)]; omega
theorem rnA_eq (b : List UInt8) (eta : Nat) (he : 1 ≤ eta ∧ eta ≤ 3) (hb : b.length = 64 * eta) : ∀ i, i ≤ 256 → rnA (rbits b) eta i = noA eta b i
  | 0, _ => rfl
  | i + 1, h => by
    have hm := Nat.mul_le_mul_right eta (show 2 * i + 2 ≤ 512 by omega)
    rw [Nat.add_mul] at hm
    rw [rnA, noA, rnA_eq b eta he hb i (by omega), noE_sum b _ eta (by omega) eta (Nat.le_refl _), ones_sum b _ _ (by omega), ones_sum b _ _ (by omega)]
    have h1 := sumB_le b (2 * i * eta) eta; have h2 := sumB_le b (2 * i * eta + eta) eta
    congr 1
    rw [zsub_eq, zmod_of_lt (by omega), zmod_of_lt (by omega), Int.tmod_eq_emod_of_nonneg (by omega)]
    omega
/-! ### Bytes of polynomials -/
def pkA (d : Nat) (p : List Int) : Nat → List Nat
  | 0 => []
  | i + 1 => pkA d p i ++ nbits (zmod (p.getD i 0)) d
theorem pkA_len (d : Nat) (p : List Int) : ∀ i, (pkA d p i).length = d * i
  | 0 => rfl
  | i + 1 => by rw [pkA, List.length_append, pkA_len d p i, nbits_len, Nat.mul_succ]
theorem pkA_bt (d : Nat) (p : List Int) : ∀ i, Bt (pkA d p i)
  | 0 => Bt.nil
  | i + 1 => by rw [pkA]; exact (pkA_bt d p i).app (Bt.nbits _ _)
theorem pkA_get (d : Nat) (hd : 1 ≤ d) (p : List Int) : ∀ i k, k < d * i → (pkA d p i).getD k 0 = zmod (p.getD (k / d) 0) / 2 ^ (k % d) % 2
  | 0, k, h => by omega
  | i + 1, k, h => by
    have hl := pkA_len d p i
    rw [Nat.mul_succ] at h
    rw [pkA]
    rcases Nat.lt_or_ge k (d * i) with h1 | h1
    · rw [getD_app_lt _ _ _ _ (by omega)]; exact pkA_get d hd p i k h1
    · have e1 : k / d = i := Nat.div_eq_of_lt_le (by rw [Nat.mul_comm]; exact h1) (by rw [Nat.mul_comm, Nat.mul_succ]; omega)
      have e2 : k % d = k - d * i := by have := Nat.div_add_mod k d; rw [e1] at this; omega
      rw [getD_app_ge _ _ _ _ (by omega), hl, nbits_get _ _ _ (by omega), e1, e2]
def opA (l : List Nat) : Nat → List UInt8
  | 0 => []
  | i + 1 => opA l i ++ [UInt8.ofNat (horD l (8 * i) 8 8)]
theorem opA_len (l : List Nat) : ∀ i, (opA l i).length = i
  | 0 => rfl
  | i + 1 => by rw [opA, List.length_append, opA_len l i]; rfl
theorem opA_get (l : List Nat) : ∀ i t, t < i → (opA l i).getD t 0 = UInt8.ofNat (horD l (8 * t) 8 8)
  | 0, t, h => by omega
  | i + 1, t, h => by
    have hl := opA_len l i
    rw [opA]
    rcases Nat.lt_or_ge t i with h1 | h1
    · rw [getD_app_lt _ _ _ _ (by omega)]; exact opA_get l i t h1
    · obtain rfl : t = i := by omega
      rw [getD_app_ge _ _ _ _ (by omega), hl, Nat.sub_self]; rfl
theorem opA_bit (l : List Nat) (hl : Bt l) (i k : Nat) (h : k < 8 * i) : bitN (opA l i) k = l.getD k 0 := by
  have hb := bt_bitL l hl (8 * (k / 8)) 8
  rw [bitN, opA_get l i _ (by omega), hor_eq, UInt8.toNat_ofNat_of_lt' (by simpa using hb.1), hb.2 _ (by omega), show 8 * (k / 8) + k % 8 = k by omega]
theorem bitN_test (b : List UInt8) (k : Nat) : bitN b k = ((b.getD (k / 8) 0).toNat.testBit (k % 8)).toNat := by
  rw [bitN, Nat.testBit_eq_decide_div_mod_eq]
  have := Nat.mod_lt ((b.getD (k / 8) 0).toNat / 2 ^ (k % 8)) (show 0 < 2 by omega)
  rcases Nat.mod_two_eq_zero_or_one ((b.getD (k / 8) 0).toNat / 2 ^ (k % 8)) with h | h <;> rw [h] <;> rfl
theorem bytes_ext (a b : List UInt8) (h : a.length = b.length) (hg : ∀ k, k < 8 * a.length → bitN a k = bitN b k) : a = b := by
  refine ext_getD 0 a b h fun i hi => ?_
  apply UInt8.toNat_inj.1
  apply Nat.eq_of_testBit_eq
  intro j
  rcases Nat.lt_or_ge j 8 with hj | hj
  · have := hg (8 * i + j) (by omega)
    rw [bitN_test, bitN_test, show (8 * i + j) / 8 = i by omega, show (8 * i + j) % 8 = j by omega] at this
    revert this
    cases (a.getD i 0).toNat.testBit j <;> cases (b.getD i 0).toNat.testBit j <;> simp
  · have p2 : (2 : Nat) ^ 8 ≤ 2 ^ j := Nat.pow_le_pow_right (by omega) hj
    have h1 := (a.getD i 0).toNat_lt; have h2 := (b.getD i 0).toNat_lt
    rw [Nat.testBit_lt_two_pow (by omega), Nat.testBit_lt_two_pow (by omega)]
theorem getD_set_eq {α : Type} (l : List α) (i j : Nat) (x d : α) (h : i < l.length) : (l.set i x).getD j d = if i = j then x else l.getD j d := by
  simp only [List.getD_eq_getElem?_getD, List.getElem?_set]
  by_cases e : i = j
  · rw [if_pos e, if_pos e, if_pos h]; rfl
  · rw [if_neg e, if_neg e]
theorem bit_put (o : List UInt8) (K v k : Nat) (hv : v < 2) (hK : K < 8 * o.length) (h0 : bitN o K = 0) :
    bitN (o.set (K / 8) (o.getD (K / 8) 0 ||| (UInt8.ofNat v <<< UInt8.ofNat (K % 8)))) k = if k = K then v else bitN o k := by
  have hm : (UInt8.ofNat (K % 8)).toNat % 8 = K % 8 := by rw [UInt8.toNat_ofNat_of_lt' (by show K % 8 < 256; omega)]; omega
  have hvn : (UInt8.ofNat v).toNat = v := UInt8.toNat_ofNat_of_lt' (by show v < 256; omega)
  rw [bitN_test, getD_set_eq _ _ _ _ _ (by omega)]
  by_cases e : K / 8 = k / 8
  · rw [if_pos e, UInt8.toNat_or, Nat.testBit_or, UInt8.toNat_shiftLeft, hm, hvn, Nat.testBit_mod_two_pow, Nat.testBit_shiftLeft]
    by_cases e2 : k = K
    · subst e2
      rw [if_pos rfl]
      have h0' := h0
      rw [bitN_test] at h0'
      have h1 : (o.getD (k / 8) 0).toNat.testBit (k % 8) = false := by
        revert h0'; cases (o.getD (k / 8) 0).toNat.testBit (k % 8) <;> simp
      rw [h1, Nat.sub_self]
      have : k % 8 < 8 := Nat.mod_lt _ (by omega)
      rcases (show v = 0 ∨ v = 1 by omega) with rfl | rfl <;> simp [this]
    · rw [if_neg e2, bitN_test]
      have hne : k % 8 ≠ K % 8 := by omega
      have : ((decide (k % 8 < 8)) && ((decide (k % 8 ≥ K % 8)) && v.testBit (k % 8 - K % 8))) = false := by
        by_cases h3 : k % 8 ≥ K % 8
        · have h4 : v.testBit (k % 8 - K % 8) = false := by
            apply Nat.testBit_lt_two_pow
            have : 2 ^ 1 ≤ 2 ^ (k % 8 - K % 8) := Nat.pow_le_pow_right (by omega) (by omega)
            omega
          rw [h4]; simp
        · simp [h3]
      rw [this, Bool.or_false, e]
  · rw [if_neg e, if_neg (by intro h; rw [h] at e; exact e rfl), bitN_test]
theorem paB_bit (c at' : Nat) (o : List UInt8) (h0 : ∀ k, at' ≤ k → bitN o k = 0) : ∀ j, at' + j ≤ 8 * o.length → ∀ k, bitN (paB c at' o j) k = if at' ≤ k ∧ k < at' + j then c / 2 ^ (k - at') % 2 else bitN o k
  | 0, _, k => by rw [paB, if_neg (by omega)]
  | j + 1, h, k => by
    have ih := paB_bit c at' o h0 j (by omega)
    have hz : bitN (paB c at' o j) (at' + j) = 0 := by rw [ih, if_neg (by omega)]; exact h0 _ (by omega)
    rw [paB, bit_put _ _ _ _ (Nat.mod_lt _ (by omega)) (by rw [paB_len]; omega) hz, ih]
    by_cases e : k = at' + j
    · subst e; rw [if_pos rfl, if_pos (by omega), show at' + j - at' = j by omega]
    · rw [if_neg e]
      by_cases e2 : at' ≤ k ∧ k < at' + j
      · rw [if_pos e2, if_pos (by omega)]
      · rw [if_neg e2, if_neg (by omega)]
theorem bitN_rep (n k : Nat) : bitN (List.replicate n 0) k = 0 := by
  rw [bitN]
  have : (List.replicate n (0 : UInt8)).getD (k / 8) 0 = 0 := by
    simp only [List.getD_eq_getElem?_getD, List.getElem?_replicate]; split <;> rfl
  rw [this]; simp
theorem paA_bit (d : Nat) (hd : 1 ≤ d) (p : List Int) : ∀ i, i ≤ 256 → ∀ k, bitN (paA d p i) k = if k < d * i then zmod (p.getD (k / d) 0) / 2 ^ (k % d) % 2 else 0
  | 0, _, k => by rw [paA, bitN_rep, if_neg (by omega)]
  | i + 1, h, k => by
    have ih := paA_bit d hd p i (by omega)
    have hm := Nat.mul_le_mul_left d (show i + 1 ≤ 256 by omega)
    rw [Nat.mul_succ] at hm
    rw [paA, paB_bit _ _ _ (fun k hk => by rw [ih, if_neg (by omega)]) d (by rw [paA_len]; omega), ih, Nat.mul_succ]
    by_cases e : d * i ≤ k ∧ k < d * i + d
    · have e1 : k / d = i := Nat.div_eq_of_lt_le (by rw [Nat.mul_comm]; exact e.1) (by rw [Nat.mul_comm, Nat.mul_succ]; exact e.2)
      have e2 : k % d = k - d * i := by have := Nat.div_add_mod k d; rw [e1] at this; omega
      rw [if_pos e, if_pos (by omega), e1, e2]
    · rw [if_neg e]
      by_cases e2 : k < d * i
      · rw [if_pos e2, if_pos (by omega)]
      · rw [if_neg e2, if_neg (by omega)]
theorem pack_eq (d : Nat) (hd : 1 ≤ d) (p : List Int) : opA (pkA d p 256) (32 * d) = paA d p 256 := by
  have hl := opA_len (pkA d p 256) (32 * d)
  refine bytes_ext _ _ (by rw [hl, paA_len]) fun k hk => ?_
  rw [hl] at hk
  rw [opA_bit _ (pkA_bt d p 256) _ _ hk, pkA_get d hd p _ _ (by omega), paA_bit d hd p 256 (Nat.le_refl _), if_pos (by omega)]
def ruA (l : List Nat) (d : Nat) : Nat → List Int
  | 0 => zero256
  | i + 1 => (ruA l d i).set i ((horD l (d * i) d d % 3329 : Nat) : Int)
theorem ruA_len (l : List Nat) (d : Nat) : ∀ i, (ruA l d i).length = 256
  | 0 => List.length_replicate
  | i + 1 => by rw [ruA, List.length_set]; exact ruA_len l d i
theorem ruA_eq (b : List UInt8) (d : Nat) (hb : b.length = 32 * d) : ∀ i, i ≤ 256 → ruA (rbits b) d i = unA d b i
  | 0, _ => rfl
  | i + 1, h => by
    have hm := Nat.mul_le_mul_left d (show i + 1 ≤ 256 by omega)
    rw [Nat.mul_succ] at hm
    rw [ruA, unA, ruA_eq b d hb i (by omega), hor_eq, btL_btA b _ _ (by omega), zmod_nat]
theorem prfB_app (eta : Nat) (seed : List UInt8) (n : UInt8) : sqz (absR 136 31 noughts (seed ++ [n])) 136 (64 * eta) = prfB (eta : Int) seed n := by
  have e1 : [seed, [n]].flatten = seed ++ [n] := by simp
  have e2 : (64 * (eta : Int)).toNat = 64 * eta := by omega
  rw [prfB, e1, e2]
end Go.Rx

/- More of the calculus: parts of arrays of arrays, function values with what they hold, slices of arrays. -/
namespace Go.Rx
open Go.RowKit
/-- A part of 256 of a row, and a row with one part new. -/
def rg (l : List Int) (i : Nat) : List Int := (l.drop (i * 256)).take 256
def rs (l : List Int) (i : Nat) (d : List Int) : List Int := l.take (i * 256) ++ d ++ l.drop (i * 256 + 256)
theorem rg_len (l : List Int) (i : Nat) (h : i * 256 + 256 ≤ l.length) : (rg l i).length = 256 := by
  rw [rg, List.length_take, List.length_drop]; omega
theorem rs_len (l : List Int) (i : Nat) (d : List Int) (h : i * 256 + 256 ≤ l.length) (hd : d.length = 256) : (rs l i d).length = l.length := by
  simp only [rs, List.length_append, List.length_take, List.length_drop]; omega
theorem rs_map (l d : List Int) (i : Nat) (hd : d.length = 256) : (l.map ei).take (i * 256) ++ d.map ei ++ (l.map ei).drop (i * 256 + (d.map ei).length) = (rs l i d).map ei := by
  simp [rs, hd]
theorem rg_map (l : List Int) (i : Nat) (h : i * 256 + 256 ≤ l.length) : ((l.map ei).drop (i * 256)).take ((rg l i).map ei).length = (rg l i).map ei := by
  have hl := rg_len l i h
  rw [List.length_map, hl, rg, List.map_take, List.map_drop]
section
variable {P : Program} {n : Nat} {env : Env} {a : Act} {w0 w w' : World} {dst : Option Tmp} {ty t t' : TypeId} {pos : String} {af : Array Edge} {g : Option (Nat × Bool)} {x y : Operand} {v u : Value}
variable {ops : Array Oper} {Q : Exit → Act → World → Prop} {rest : List Oper} {d : Nat} {S : World → Prop} {T : List Nat} {m i : Nat} {st r : List Nat}
/-- A part of an array of arrays by value. -/
theorem r_indexP (ha : Has n env a) {e len sz i : Nat} {C D : List Value} (hT : ∀ w, (underlying t).run P w = .ok (.array len e) w) (hsz : ∀ w, (sizeOf e).run P w = .ok sz w) (hagg : ∀ w, (isAgg e).run P w = .ok true w) (hx : ev env x = some (.agg C.toArray)) (hy : ev env y = some (en i)) (hi : i < len) (hl : D.length = sz)
    (hC : (C.drop (i * sz)).take D.length = D) :
    (execOp a.eval ⟨dst, .index t x y, ty, pos, af, g⟩).run P w = .ok (.value (.agg D.toArray)) w := by
  have h4 : (0 : Int) ≤ (i : Int) ∧ (i : Int) < (len : Int) := ⟨by omega, by omega⟩
  have hex : C.toArray.extract (i * sz) (i * sz + sz) = D.toArray := by
    rw [List.extract_toArray, List.extract_eq_take_drop]
    rw [show i * sz + sz - i * sz = D.length by omega, hC]
  simp [execOp, ha.ev hx, ha.ev hy, Instr.index, asIntOf, hT, hsz, hagg, h4, hi, part, hex]
  rw [hl] at hC; exact hC
/-- A function value that holds something. -/
theorem r_makeFunc (ha : Has n env a) {f : Nat} (l : List Operand) (vs : List Value) (hl : evs env l = some vs) :
    (execOp a.eval ⟨dst, .makeFunc (.func f) #[] l.toArray, ty, pos, af, g⟩).run P w = .ok (.value (.func (.func f) #[] vs.toArray)) w := by
  have h := ha.evs l vs hl
  simp [execOp, Instr.makeFunc, h]
/-- append of elements of many cells. -/
theorem run_appN {e : Nat} {ti : TypeInfo} {zv : Value} {base k m sz cap : Nat} {C D : List Value} (q : Addr) (ht : P.underlying t = some (.slice e)) (hi : P.info? e = some ti) (hz : ti.zero = some zv) (hsz : ti.size = sz) (hzs : zv.cells.size = sz) (hs0 : 0 < sz)
    (hown : w.ownsRow base e sz v k C) (hnews : ∀ j p, D[j]? = some p → w.cell? (q.add j) = some p) (hl : D.length = m * sz) (hm : 0 < m) (h1 : ∀ q ∈ D, q.oneCell' = true) (hbd : (k + m) * ti.bytes ≤ 140737488355328) (hbd2 : k + m ≤ 140737488355328) (hbase : base ≤ w.heap.size) :
    ∃ v' w', (Builtin.append_ #[t, t] ty #[v, .slice (some q) m cap]).run P w = .ok v' w' ∧ w'.ownsRow base e sz v' (k + m) (C ++ D) ∧ w.grownBy w' v.ownBlock ∧ (∀ j, v'.ownBlock = some j → v.ownBlock = some j ∨ w.heap.size ≤ j) := by
  subst hsz
  have hl2 : D.length = m * ti.size := hl
  have hmx : k + m ≤ maxLen := by unfold maxLen; omega
  rcases hown.2 with ⟨hv, hk⟩ | ⟨g, c, cur, hv, hbg, hg, hkc, hcm, hcs, htake⟩
  · subst hv; subst hk
    have hC : C = [] := List.eq_nil_of_length_eq_zero (by simpa using hown.1)
    subst hC
    have hr := run_append_nil (P := P) w t ty e ti zv ht hi hz q m cap D hl hnews (by omega) (by omega) (by have := hbd; simp only [Nat.zero_add] at this; omega)
    have hcl : grownCap w m 0 e ≤ maxLen := grownCap_le_maxLen w _ _ e (by simpa using hmx)
    have hcg := grownCap_ge w m 0 e
    refine ⟨_, _, hr, ⟨by simp [hl], .inr ⟨w.heap.size, _, _, by simp, hbase, heap_alloc_new w.drew _, by simpa using hcg, hcl, ?_, ?_⟩⟩, ⟨rfl, rfl, rfl, by simp, fun j hj _ => heap_alloc_old w.drew _ hj⟩, fun j hj => ?_⟩
    · simp only [Array.size_append, List.size_toArray, size_zeroCells, hzs, hl, ← Nat.add_mul]; congr 1; omega
    · simp [hl]
    · simp [Value.ownBlock] at hj; exact .inr (by omega)
  · subst hv
    have hlen : (C ++ D).length = (k + m) * ti.size := by rw [List.length_append, hown.1, hl, Nat.add_mul]
    by_cases hroom : k + m ≤ c
    · have hkm : k * ti.size + m * ti.size ≤ c * ti.size := by rw [← Nat.add_mul]; exact Nat.mul_le_mul_right _ hroom
      have hr := run_append_room (P := P) w t ty e ti ht hi g k c cur hg q m cap D hl hnews h1 hroom (by omega)
      refine ⟨_, _, hr, ⟨hlen, .inr ⟨g, c, _, rfl, hbg, setRow_heap w g cur _ e _ hg, hroom, hcm, ?_, ?_⟩⟩, ⟨rfl, rfl, rfl, by simp, fun j _ hj => setRow_other w g j _ (fun e => hj (by simp [Value.ownBlock, e]))⟩, fun j hj => Or.inl hj⟩
      · simp; omega
      · simp only [htake]
        rw [← hlen]
        exact List.take_left
    · have hr := run_append_grow (P := P) w t ty e ti zv ht hi hz ⟨g, 0, none⟩ k c C hown.1 (hown.cells (g := g) rfl) q m cap D hl hnews (by omega) (by omega) (growslice_fits (by omega) hbd)
      have hcl : grownCap w (k + m) c e ≤ maxLen := grownCap_le_maxLen w _ _ e hmx
      have hcg := grownCap_ge w (k + m) c e
      refine ⟨_, _, hr, ⟨hlen, .inr ⟨w.heap.size, _, _, rfl, hbase, heap_alloc_new w.drew _, hcg, hcl, ?_, ?_⟩⟩, ⟨rfl, rfl, rfl, by simp, fun j hj _ => heap_alloc_old w.drew _ hj⟩, fun j hj => ?_⟩
      · simp only [Array.size_append, List.size_toArray, size_zeroCells, hzs, hl, hown.1, ← Nat.add_mul]; congr 1; omega
      · simp only [Array.toList_append, List.append_assoc]
        rw [← List.append_assoc, ← hlen]
        exact List.take_left
      · simp [Value.ownBlock] at hj; exact .inr (by omega)
/-- append of one array, in the walk. -/
theorem sappN (ha : Has n env a) {e : Nat} {ti : TypeInfo} {zv : Value} {base k sz b : Nat} {C D : List Value} (hx : ev env x = some v) (hy : ev env y = some (.slice (some ⟨b, 0, none⟩) 1 1)) (ht : P.underlying t = some (.slice e)) (hi : P.info? e = some ti) (hz : ti.zero = some zv) (hsz : ti.size = sz) (hzs : zv.cells.size = sz) (hs0 : Nat.blt 0 sz = true)
    (hown : w.ownsRow base e sz v k C) (hb : w.heap[b]? = some (.cells D.toArray e (0, 0))) (hl : D.length = sz) (h1 : ∀ q ∈ D, q.oneCell' = true) (hbd : (k + 1) * ti.bytes ≤ 140737488355328) (hbd2 : k + 1 ≤ 140737488355328) (hbase : base ≤ w.heap.size) (hn : Nat.blt d n = true)
    (K : ∀ a' w' v', Has n ((d, v') :: env) a' → w.grownBy w' v.ownBlock → w'.ownsRow base e sz v' (k + 1) (C ++ D) → (∀ j, v'.ownBlock = some j → v.ownBlock = some j ∨ w.heap.size ≤ j) → wpList P ops Q rest a' w') :
    wpList P ops Q (⟨some d, .call ⟨.builtin .append, #[x, y], #[t, t]⟩, ty, pos, af, none⟩ :: rest) a w := by
  have hnews : ∀ j p, D[j]? = some p → w.cell? ((⟨b, 0, none⟩ : Addr).add j) = some p := fun j p hp => by rw [add_zero']; exact cells_all hb j p hp
  obtain ⟨v', w', hr, ho, hg, hj⟩ := run_appN (P := P) (w := w) (ty := ty) (cap := 1) ⟨b, 0, none⟩ ht hi hz hsz hzs (by simpa [Nat.blt_eq] using hs0) hown hnews (by rw [hl, Nat.one_mul]) (by omega) h1 hbd hbd2 hbase
  refine sv ha (w' := w') (v := v') ?_ rfl rfl hn fun a' ha' => K a' w' v' ha' hg ho hj
  simp only [execOp, resolve, ha.ev hx, ha.ev hy, invoke, builtin, Sem.run_bind, Sem.run_pure, Result.andThen_ok, List.map_toArray, List.map_cons, List.map_nil, hr]
/-- A literal of one array. -/
theorem sbuildN (ha : Has n env a) {e sz : Nat} {ti : TypeInfo} {z : Value} {D : List Value} (hx : ev env x = some (.agg D.toArray)) (ht : P.underlying t = some (.slice e)) (hi : P.info? e = some ti) (hz : ti.zero = some z) (hsz : ti.size = sz) (hD : D.length = sz) (hs0 : Nat.blt 0 sz = true) (hs1 : Nat.ble sz 16777216 = true) (hn : Nat.blt d n = true)
    (K : ∀ a' w' b, Has n ((d, .slice (some ⟨b, 0, none⟩) 1 1) :: env) a' → w.grownBy w' none → w'.heap[b]? = some (.cells D.toArray e (0, 0)) → w.heap.size ≤ b → b < w'.heap.size → wpList P ops Q rest a' w') :
    wpList P ops Q (⟨some d, .buildSlice t 1 #[(0, x)], ty, pos, af, none⟩ :: rest) a w := by
  have h0 : 0 < sz := by simpa [Nat.blt_eq] using hs0
  have h1 : sz ≤ 16777216 := by simpa [Nat.ble_eq] using hs1
  have hf := Great.fill_whole h0 [.agg D.toArray] ((Array.range (1 * ti.size)).map (z.cells[· % z.cells.size]!)) (fun v hv => by simp at hv; subst hv; simpa [Value.cells] using hD) (by simp [hsz])
  have hf' : Instr.fill (fun i => some (i * ti.size, ti.size)) ((Array.range (1 * ti.size)).map (z.cells[· % z.cells.size]!)) (#[(0, Value.agg D.toArray)] : Array (Nat × Value)).toList = some D.toArray := by
    rw [hsz] at hf ⊢
    have e2 : ([Value.agg D.toArray].flatMap fun v => v.cells.toList) = D := by simp [Value.cells]
    rw [e2] at hf
    exact hf
  have hr := Go.run_buildSlice (P := P) w t e 1 #[(0, Value.agg D.toArray)] D.toArray ti z ht hi hz (by rw [hsz]; omega) (by rw [hsz]; omega) hf'
  have hrun : (execOp a.eval ⟨some d, .buildSlice t 1 #[(0, x)], ty, pos, af, none⟩).run P w = .ok (.value (.slice (some ⟨w.heap.size, 0, none⟩) 1 1)) (w.alloc (.cells D.toArray e)) := by
    have hm : ((#[(0, x)] : Array (Nat × Operand)).map fun p => (p.1, a.eval p.2)) = #[(0, Value.agg D.toArray)] := by simp [ha.ev hx]
    simp only [execOp, hm, Sem.run_bind, hr, Result.andThen_ok]; rfl
  exact sv ha hrun rfl rfl hn fun _ ha' => K _ _ _ ha' (grown_alloc w _) (heap_alloc_new w _) (Nat.le_refl _) (by simp)
/-- An element's address in an owned slice of arrays; what lies there. -/
theorem r_indexO (ha : Has n env a) {e k sz base i : Nat} {C : List Value} (hT : ∀ w, (underlying t).run P w = .ok (.slice e) w) (hsz : ∀ w, (sizeOf e).run P w = .ok sz w) (hown : w.ownsRow base e sz v k C) (hx : ev env x = some v) (hy : ev env y = some (en i)) (hi : i < k) :
    (execOp a.eval ⟨dst, .indexAddr t x y, ty, pos, af, g⟩).run P w = .ok (.value (ptrOf v (i * sz))) w := by
  rcases hown.2 with ⟨hv, hk⟩ | ⟨q, c, cur, hv, hbg, hg, hkc, hcm, hcs, htake⟩
  · omega
  · have h4 : (0 : Int) ≤ (i : Int) ∧ (i : Int) < (k : Int) := ⟨by omega, by omega⟩
    simp [execOp, ha.ev hx, ha.ev hy, Instr.indexAt, asIntOf, hT, hsz, hv, h4, hi, ptrOf, add_zero']
theorem r_loadO (ha : Has n env a) {e k sz base szt o : Nat} {C D : List Value} (hown : w.ownsRow base e sz v k C) (hx : ev env x = some (ptrOf v o)) (hagg : ∀ w, (isAgg t).run P w = .ok true w) (hszt : ∀ w, (sizeOf t).run P w = .ok szt w) (hl : D.length = szt) (h0 : Nat.blt 0 szt = true) (hC : (C.drop o).take D.length = D) :
    (execOp a.eval ⟨dst, .load t x, ty, pos, af, g⟩).run P w = .ok (.value (.agg D.toArray)) w := by
  have h0' : 0 < szt := by simpa [Nat.blt_eq] using h0
  rcases hown.2 with ⟨hv, hk⟩ | ⟨q, c, cur, hv, hbg, hg, hkc, hcm, hcs, htake⟩
  · have : C = [] := List.eq_nil_of_length_eq_zero (by rw [hown.1, hk, Nat.zero_mul])
    rw [this] at hC; simp at hC; rw [hC] at hl; simp at hl; omega
  · have hcl := hown.cells (g := q) (by rw [hv]; rfl)
    rw [hv] at hx
    have hx' : ev env x = some (.pointer (some ⟨q, o, none⟩)) := by rw [hx]; simp [ptrOf]
    refine r_loadR (b := q) (o := o) ha hx' hagg hszt hl fun j u hu => ?_
    have hj : j < D.length := (List.getElem?_eq_some_iff.1 hu).1
    have := hcl (o + j) u (by rw [← hC, List.getElem?_take, if_pos hj, List.getElem?_drop] at hu; exact hu)
    rw [add_zero'] at this; simpa using this
theorem keepX0 {base e k sz : Nat} {C : List Value} (hg : w.grownBy w' none) (h : w.ownsRow base e sz v k C) : w'.ownsRow base e sz v k C := h.kept hg (by cases v.ownBlock <;> simp)
theorem keepX1 {base e k b sz : Nat} {C : List Value} (hg : w.grownBy w' (some b)) (hne : v.ownBlock ≠ some b) (h : w.ownsRow base e sz v k C) : w'.ownsRow base e sz v k C := h.kept hg (.inr hne)
theorem keepXR {row : Option Nat} {base e k sz : Nat} {C : List Value} (hg : w.grownBy w' row) (hne : ∀ j, row = some j → v.ownBlock ≠ some j) (h : w.ownsRow base e sz v k C) : w'.ownsRow base e sz v k C :=
  h.kept hg (by
    cases hv : v.ownBlock with
    | none => exact .inl rfl
    | some k => exact .inr (fun e => hne k e.symm hv))
theorem own_rowX {base e k sz : Nat} {C : List Value} (h : w.ownsRow base e sz v k C) : ∀ j, v.ownBlock = some j → base ≤ j := fun j hj => (h.lt j hj).1
end
end Go.Rx

/- Regions that draw their order, where two operations that are not steady may come up at once: a tree of orders in place of one. -/
namespace Go.Rx
open Go.RowKit
inductive Ord | fin | op (i : Nat) (r : Ord) | two (i : Nat) (r : Ord) (j : Nat) (q : Ord)
def Ord.lenB : Ord → Nat → Bool
  | .fin, n => Nat.beq n 0
  | .op _ r, n => match n with | 0 => false | n + 1 => r.lenB n
  | .two _ r _ q, n => match n with | 0 => false | n + 1 => r.lenB n && q.lenB n
def Ord.noSt (st : List Nat) : Ord → Bool
  | .fin => true
  | .op i r => !st.contains i && r.noSt st
  | .two i r j q => !st.contains i && !st.contains j && r.noSt st && q.noSt st
def Ord.restB (st T : List Nat) : Ord → Bool
  | .fin => true
  | .op i r => (if T.contains i then !st.contains i && r.noSt st else true) && r.restB st T
  | .two i r j q => (if T.contains i then r.noSt st else true) && (if T.contains j then q.noSt st else true) && r.restB st T && q.restB st T
def Ord.orderB (ops : Array Oper) (st : List Nat) : Ord → Array Bool → Bool
  | .fin, listed => (Region.ready .any ops listed).isEmpty
  | .op i r, listed => (Region.ready .any ops listed).contains i && (if st.contains i then Region.free .any ops listed i else (Region.ready .any ops listed).all (Nat.beq i)) && r.orderB ops st (listed.setIfInBounds i true)
  | .two i r j q, listed => (Region.ready .any ops listed).contains i && (Region.ready .any ops listed).all (fun k => Nat.beq i k || Nat.beq j k) && (!st.contains i && !st.contains j) && r.orderB ops st (listed.setIfInBounds i true) && q.orderB ops st (listed.setIfInBounds j true)
def treeB (ops : Array Oper) (st T : List Nat) (ord : Ord) : Bool :=
  Region.noSelect ops && tailB ops T && ord.lenB ops.size && ord.orderB ops st (Array.replicate ops.size false) && ord.restB st T
section
variable {P : Program} {ops : Array Oper} {Q : Exit → Act → World → Prop} {S : World → Prop} {T : List Nat}
def wpT (P : Program) (ops : Array Oper) (Q : Exit → Act → World → Prop) (S : World → Prop) (T : List Nat) (st : List Nat) : Ord → Act → World → Prop
  | .fin, a, w => Q .normal a w
  | .op i r, a, w => ∃ o, ops[i]? = some o ∧
    if st.contains i then ∃ v, YieldsIf P ops S o v a ∧ wpT P ops Q S T st r (a.put o.dst v) w
    else wpOp P ops Q i (fun a' w' => ∃ S' : World → Prop, (∀ w, S' w → S w) ∧ (T.contains i = false → S' w') ∧ wpT P ops Q S' T st r a' w') a w
  | .two i r j q, a, w => (∃ o, ops[i]? = some o ∧
    if st.contains i then ∃ v, YieldsIf P ops S o v a ∧ wpT P ops Q S T st r (a.put o.dst v) w
    else wpOp P ops Q i (fun a' w' => ∃ S' : World → Prop, (∀ w, S' w → S w) ∧ (T.contains i = false → S' w') ∧ wpT P ops Q S' T st r a' w') a w) ∧
    (∃ o, ops[j]? = some o ∧
    if st.contains j then ∃ v, YieldsIf P ops S o v a ∧ wpT P ops Q S T st q (a.put o.dst v) w
    else wpOp P ops Q j (fun a' w' => ∃ S' : World → Prop, (∀ w, S' w → S w) ∧ (T.contains j = false → S' w') ∧ wpT P ops Q S' T st q a' w') a w)
theorem AnyF_of_wpT {st : List Nat} (hsel : Region.noSelect ops = true) (hlast : tailB ops T = true) (hQ : ∀ c a w, ¬ Q (.panic c) a w) :
    ∀ (ord : Ord) (n : Nat) (S : World → Prop) (listed : Array Bool) (a : Act) (w : World), Closed ops listed → ord.lenB n = true → ord.orderB ops st listed = true → ord.restB st T = true → (ord.noSt st = false → S w) →
      wpT P ops Q S T st ord a w → AnyF P ops Q S T n listed a w
  | .fin, n, _, _, _, _, _, hL, hB, _, _, h => by
    obtain rfl : n = 0 := Nat.eq_of_beq_eq_true hL
    exact ⟨by simpa [Ord.orderB] using hB, h⟩
  | .op i r, 0, _, _, _, _, _, hL, _, _, _, _ => by cases hL
  | .two i r j q, 0, _, _, _, _, _, hL, _, _, _, _ => by cases hL
  | .op i r, n + 1, S, listed, a, w, hcl, hL, hB, hR, hS, h => by
    replace hL : r.lenB n = true := hL
    simp only [Ord.orderB, Bool.and_eq_true] at hB
    obtain ⟨⟨hr, hf⟩, hB'⟩ := hB
    simp only [Ord.restB, Bool.and_eq_true] at hR
    obtain ⟨hR0, hR'⟩ := hR
    obtain ⟨o, ho, h⟩ := h
    have hir : i ∈ Region.ready .any ops listed := by simpa using hr
    by_cases hc : st.contains i = true
    · rw [if_pos hc] at h hf
      obtain ⟨v, hy, h⟩ := h
      have hw := hS (by simp only [Ord.noSt, hc]; rfl)
      have hit : T.contains i = false := by
        cases hT : T.contains i with
        | false => rfl
        | true => rw [if_pos hT, hc] at hR0; simp at hR0
      exact AnyF_first ho hit (Region.noSelect_spec hsel) (fun c a w hq => absurd hq (hQ c _ w)) hlast n listed a w hcl (Region.free_spec ho hf) hir hy hw
        (AnyF_of_wpT hsel hlast hQ r n S _ _ w (hcl.add hir) hL hB' hR' (fun _ => hw) h)
    · rw [if_neg hc] at h hf
      have hall : ∀ k ∈ Region.ready .any ops listed, k = i := fun k hk => (Nat.eq_of_beq_eq_true (List.all_eq_true.1 hf k hk)).symm
      refine ⟨fun e => by rw [e] at hr; simp at hr, fun k hk => ?_⟩
      rw [hall k hk]
      refine wpOp_mono (fun a' w' h' => ?_) h
      obtain ⟨S', hle, hS', h'⟩ := h'
      refine ⟨fun hT => hle _ (hS' hT), AnyF_mono hle _ _ _ _ (AnyF_of_wpT hsel hlast hQ r n S' _ a' w' (hcl.add hir) hL hB' hR' (fun hex => ?_) h')⟩
      cases hT : T.contains i with
      | false => exact hS' hT
      | true => rw [if_pos hT, hex] at hR0; simp at hR0
  | .two i r j q, n + 1, S, listed, a, w, hcl, hL, hB, hR, hS, h => by
    replace hL : (r.lenB n && q.lenB n) = true := hL
    simp only [Bool.and_eq_true] at hL
    simp only [Ord.orderB, Bool.and_eq_true] at hB
    obtain ⟨⟨⟨⟨hr, hf⟩, hns⟩, hB1⟩, hB2⟩ := hB
    simp only [Ord.restB, Bool.and_eq_true] at hR
    obtain ⟨⟨⟨hRi, hRj⟩, hR1⟩, hR2⟩ := hR
    obtain ⟨h1, h2⟩ := h
    have hci : ¬ st.contains i = true := by intro e; rw [e] at hns; simp at hns
    have hcj : ¬ st.contains j = true := by intro e; rw [e] at hns; simp at hns
    obtain ⟨o1, ho1, h1⟩ := h1
    obtain ⟨o2, ho2, h2⟩ := h2
    rw [if_neg hci] at h1
    rw [if_neg hcj] at h2
    refine ⟨fun e => by rw [e] at hr; simp at hr, fun k hk => ?_⟩
    have hor : k = i ∨ k = j := by
      have := List.all_eq_true.1 hf k hk
      simp only [Bool.or_eq_true] at this
      exact this.imp (fun e => (Nat.eq_of_beq_eq_true e).symm) (fun e => (Nat.eq_of_beq_eq_true e).symm)
    rcases hor with rfl | rfl
    · refine wpOp_mono (fun a' w' h' => ?_) h1
      obtain ⟨S', hle, hS', h'⟩ := h'
      refine ⟨fun hT => hle _ (hS' hT), AnyF_mono hle _ _ _ _ (AnyF_of_wpT hsel hlast hQ r n S' _ a' w' (hcl.add hk) hL.1 hB1 hR1 (fun hex => ?_) h')⟩
      cases hT : T.contains k with
      | false => exact hS' hT
      | true => rw [if_pos hT, hex] at hRi; cases hRi
    · refine wpOp_mono (fun a' w' h' => ?_) h2
      obtain ⟨S', hle, hS', h'⟩ := h'
      refine ⟨fun hT => hle _ (hS' hT), AnyF_mono hle _ _ _ _ (AnyF_of_wpT hsel hlast hQ q n S' _ a' w' (hcl.add hk) hL.2 hB2 hR2 (fun hex => ?_) h')⟩
      cases hT : T.contains k with
      | false => exact hS' hT
      | true => rw [if_pos hT, hex] at hRj; cases hRj
theorem regionT {id : Nat} {a : Act} {w : World} {l : List Oper} (S : World → Prop) (T st : List Nat) (ord : Ord) (hm : P.follows .mixedOrders = true)
    (hB : treeB l.toArray st T ord = true) (hS : ∀ w', w.grownBy w' none → S w')
    (h : ∀ w', w.grownBy w' none → wpT P l.toArray (NoPanic Q) S T st ord a w') : (Code.region id l.toArray true).wp P Q a w := by
  have hg : w.grownBy { w with drawn := w.drawn + 1 } none := ⟨rfl, rfl, rfl, Nat.le_refl _, fun _ _ _ => rfl⟩
  simp only [treeB, Bool.and_eq_true] at hB
  obtain ⟨⟨⟨⟨h1, h2⟩, h3⟩, h4⟩, h5⟩ := hB
  refine wp_region_noPanic (wp_region_any hm ?_)
  refine any_of_AnyF _ _ _ _ (AnyF_of_wpT h1 h2 (fun c a w hq => hq) ord _ S _ a _ (fun j oj _ hl => ?_) h3 h4 h5 (fun _ => hS _ hg) (h _ hg))
  exfalso
  rcases Nat.lt_or_ge j (Array.replicate l.toArray.size false).size with h' | h'
  · simp [Array.getElem?_replicate] at hl
    split at hl <;> simp at hl
  · rw [Array.getD_eq_getD_getElem?, Array.getElem?_eq_none h'] at hl; simp at hl
theorem T.two {st : List Nat} {i j : Nat} {r q : Ord} {a : Act} {w : World} (h1 : wpT P ops Q S T st (.op i r) a w) (h2 : wpT P ops Q S T st (.op j q) a w) : wpT P ops Q S T st (.two i r j q) a w := ⟨h1, h2⟩
end
namespace T
section
variable {P : Program} {ops : Array Oper} {Q : Exit → Act → World → Prop} {S : World → Prop} {T : List Nat}
variable {st : List Nat} {i : Nat} {r : Ord} {a : Act} {w w' : World} {o : Oper} {m : Nat} {env : Env} {v : Value}
theorem cfin (h : Q .normal a w) : wpT P ops (NoPanic Q) S T st .fin a w := h
theorem cv (ha : Has m env a) {d : Nat} (hi : ops[i]? = some o) (hc : st.contains i = true) (hrun : ∀ w, S w → (execOp a.eval o).run P w = .ok (.value v) w) (hg : o.guard = none) (hd : o.dst = some d) (hn : Nat.blt d m = true)
    (k : ∀ a', Has m ((d, v) :: env) a' → wpT P ops Q S T st r a' w) : wpT P ops Q S T st (.op i r) a w := by
  refine ⟨o, hi, ?_⟩
  rw [if_pos hc]
  refine ⟨v, .inl ⟨wanted_none hg _, hrun⟩, ?_⟩
  rw [hd]
  exact k _ (ha.put hn v)
theorem cw (ha : Has m env a) {d : Nat} (hi : ops[i]? = some o) (hc : st.contains i = false) (hrun : (execOp a.eval o).run P w = .ok (.value v) w') (hg : o.guard = none) (hd : o.dst = some d) (hn : Nat.blt d m = true) (hS : T.contains i = false → S w')
    (k : ∀ a', Has m ((d, v) :: env) a' → wpT P ops Q S T st r a' w') : wpT P ops Q S T st (.op i r) a w := by
  refine ⟨o, hi, ?_⟩
  rw [if_neg (by rw [hc]; simp)]
  unfold wpOp
  simp only [hi]
  rw [if_pos (wanted_none hg _)]
  refine .inl ?_
  unfold Oper.wp
  rw [hrun, Oper.upon_value, hd]
  exact ⟨S, fun _ h => h, hS, k _ (ha.put hn v)⟩
theorem cs (ha : Has m env a) (hi : ops[i]? = some o) (hc : st.contains i = false) (hrun : (execOp a.eval o).run P w = .ok .skip w') (hg : o.guard = none) (hd : o.dst = none) (hS : T.contains i = false → S w')
    (k : ∀ a', Has m env a' → wpT P ops Q S T st r a' w') : wpT P ops Q S T st (.op i r) a w := by
  refine ⟨o, hi, ?_⟩
  rw [if_neg (by rw [hc]; simp)]
  unfold wpOp
  simp only [hi]
  rw [if_pos (wanted_none hg _)]
  refine .inl ?_
  unfold Oper.wp
  rw [hrun, Oper.upon_skip, hd]
  exact ⟨S, fun _ h => h, hS, k _ ha⟩
theorem cc (ha : Has m env a) {d : Nat} {f : FuncId} {args : Array Value} {R : Ending → World → Prop} (hi : ops[i]? = some o) (hc : st.contains i = false) (hrun : (execOp a.eval o).run P w = .ok (.enter f args) w') (hg : o.guard = none) (hd : o.dst = some d) (hn : Nat.blt d m = true)
    (hcall : Calls P f args w' R) (k : ∀ e w'', R e w'' → (T.contains i = false → S w'') ∧ ∃ v, e = .returned v ∧ ∀ a', Has m ((d, v) :: env) a' → wpT P ops Q S T st r a' w'') : wpT P ops Q S T st (.op i r) a w := by
  refine ⟨o, hi, ?_⟩
  rw [if_neg (by rw [hc]; simp)]
  unfold wpOp
  simp only [hi]
  rw [if_pos (wanted_none hg _)]
  refine .inl ?_
  unfold Oper.wp
  rw [hrun, Oper.upon_enter, hd]
  refine hcall.mono fun e w'' hR => ?_
  obtain ⟨hS, v, rfl, k'⟩ := k e w'' hR
  exact ⟨S, fun _ h => h, hS, k' _ (ha.put hn v)⟩
theorem ccx (ha : Has m env a) {d : Nat} {f : FuncId} {args : Array Value} {R : Ending → World → Prop} (hi : ops[i]? = some o) (hc : st.contains i = false) (hrun : (execOp a.eval o).run P w = .ok (.enter f args) w') (hg : o.guard = none) (hd : o.dst = some d) (hn : Nat.blt d m = true)
    (hcall : Calls P f args w' R) (k : ∀ e w'', R e w'' → ∃ S' : World → Prop, (∀ w, S' w → S w) ∧ (T.contains i = false → S' w'') ∧ ∃ v, e = .returned v ∧ ∀ a', Has m ((d, v) :: env) a' → wpT P ops Q S' T st r a' w'') : wpT P ops Q S T st (.op i r) a w := by
  refine ⟨o, hi, ?_⟩
  rw [if_neg (by rw [hc]; simp)]
  unfold wpOp
  simp only [hi]
  rw [if_pos (wanted_none hg _)]
  refine .inl ?_
  unfold Oper.wp
  rw [hrun, Oper.upon_enter, hd]
  refine hcall.mono fun e w'' hR => ?_
  obtain ⟨S', hle, hS, v, rfl, k'⟩ := k e w'' hR
  exact ⟨S', hle, hS, k' _ (ha.put hn v)⟩
end
section
variable {P : Program} {n : Nat} {env : Env} {a : Act} {w w0 w' : World} {dst : Option Tmp} {ty t t' : TypeId} {pos : String} {af : Array Edge} {g : Option (Nat × Bool)} {x y z : Operand} {v u : Value}
variable {row : Option Nat} {b c : Nat} {o : Obj} {ops : Array Oper} {Q : Exit → Act → World → Prop} {rest : List Oper} {d : Nat} {S : World → Prop} {T : List Nat} {m i : Nat} {st : List Nat} {r : Ord}
theorem cstoreR (ha : Has n env a) {t bt : TypeId} {b o sz : Nat} {C D : List Value} (hi : ops[i]? = some ⟨none, .store t x y, ty, pos, af, none⟩) (hc : st.contains i = false) (hx : ev env x = some (.pointer (some ⟨b, o, none⟩))) (hy : ev env y = some (.agg D.toArray)) (hD : ∀ u ∈ D, u.oneCell' = true) (hsz : ∀ w, (sizeOf t).run P w = .ok sz w) (hl : D.length = sz)
    (hb : w.heap[b]? = some (.cells C.toArray bt (0, 0))) (ho : o + D.length ≤ C.length) (hlast : T.contains i = true)
    (k : ∀ a' w', Has n env a' → w.grownBy w' (some b) → w'.heap[b]? = some (.cells (C.take o ++ D ++ C.drop (o + D.length)).toArray bt (0, 0)) → wpT P ops Q S T st r a' w') : wpT P ops Q S T st (.op i r) a w :=
  cs ha hi hc (r_storeR ha hx hy hD hsz hl hb ho) rfl rfl (by rw [hlast]; simp) fun _ ha' => k _ _ ha' (grown_setRow w b _) (setRow_new hb)
theorem cstoreW (ha : Has n env a) {t bt : TypeId} {b sz : Nat} {C D : List Value} (hi : ops[i]? = some ⟨none, .store t x y, ty, pos, af, none⟩) (hc : st.contains i = false) (hx : ev env x = some (.pointer (some ⟨b, 0, none⟩))) (hy : ev env y = some (.agg D.toArray)) (hD : ∀ u ∈ D, u.oneCell' = true) (hsz : ∀ w, (sizeOf t).run P w = .ok sz w) (hl : D.length = sz)
    (hb : w.heap[b]? = some (.cells C.toArray bt (0, 0))) (hC : C.length = sz) (hlast : T.contains i = true)
    (k : ∀ a' w', Has n env a' → w.grownBy w' (some b) → w'.heap[b]? = some (.cells D.toArray bt (0, 0)) → wpT P ops Q S T st r a' w') : wpT P ops Q S T st (.op i r) a w :=
  cstoreR ha hi hc hx hy hD hsz hl hb (by omega) hlast fun a' w' ha' hg hb' => k a' w' ha' hg (by rwa [show C.take 0 ++ D ++ C.drop (0 + D.length) = D by simp [hl, hC]] at hb')
end
section
variable {P : Program} {n : Nat} {env : Env} {a : Act} {w w0 w' : World} {dst : Option Tmp} {ty t t' : TypeId} {pos : String} {af : Array Edge} {g : Option (Nat × Bool)} {x y z : Operand} {v u : Value}
variable {row : Option Nat} {b c : Nat} {o : Obj} {ops : Array Oper} {Q : Exit → Act → World → Prop} {rest : List Oper} {d : Nat} {S : World → Prop} {T : List Nat} {m i : Nat} {st : List Nat} {r : Ord}
end
section
variable {P : Program} {ops : Array Oper} {Q : Exit → Act → World → Prop} {S : World → Prop} {T : List Nat}
variable {st : List Nat} {i : Nat} {r : Ord} {a : Act} {w w' : World} {o : Oper} {m : Nat} {env : Env} {v u : Value} {ty t : TypeId} {pos : String} {af : Array Edge} {x y : Operand} {dst : Option Tmp} {g : Option (Nat × Bool)}
end
section
variable {P : Program} {n : Nat} {env : Env} {a : Act} {w w0 w' : World} {dst : Option Tmp} {ty t t' : TypeId} {pos : String} {af : Array Edge} {g : Option (Nat × Bool)} {x y z : Operand} {v u : Value}
variable {row : Option Nat} {b c : Nat} {o : Obj} {ops : Array Oper} {Q : Exit → Act → World → Prop} {rest : List Oper} {d : Nat} {S : World → Prop} {T : List Nat} {m i : Nat} {st : List Nat} {r : Ord}
theorem calloc (ha : Has m env a) {t : TypeId} {C : List Value} (hi : ops[i]? = some ⟨some d, .alloc t, ty, pos, af, none⟩) (hc : st.contains i = false) (hz : ∀ w, (zeroValue t).run P w = .ok (.agg C.toArray) w) (hn : Nat.blt d m = true) (hS : ∀ w', w.grownBy w' none → S w')
    (k : ∀ a' w' b, Has m ((d, .pointer (some ⟨b, 0, none⟩)) :: env) a' → w.grownBy w' none → w'.heap[b]? = some (.cells C.toArray t (0, 0)) → w.heap.size ≤ b → b < w'.heap.size → wpT P ops Q S T st r a' w') :
    wpT P ops Q S T st (.op i r) a w :=
  cw ha hi hc (r_alloc hz) rfl rfl hn (fun _ => hS _ (grown_alloc w _)) fun _ ha' => k _ _ _ ha' (grown_alloc w _) (heap_alloc_new w _) (Nat.le_refl _) (by simp)
end
section
variable {P : Program} {n : Nat} {env : Env} {a : Act} {w w0 w' : World} {dst : Option Tmp} {ty t t' : TypeId} {pos : String} {af : Array Edge} {g : Option (Nat × Bool)} {x y z : Operand} {v u : Value}
variable {row : Option Nat} {b c : Nat} {o : Obj} {ops : Array Oper} {Q : Exit → Act → World → Prop} {rest : List Oper} {d : Nat} {S : World → Prop} {T : List Nat} {m i : Nat} {st : List Nat} {r : Ord}
theorem cstoreWS (ha : Has n env a) {t bt : TypeId} {b sz : Nat} {C D : List Value} (hi : ops[i]? = some ⟨none, .store t x y, ty, pos, af, none⟩) (hc : st.contains i = false) (hx : ev env x = some (.pointer (some ⟨b, 0, none⟩))) (hy : ev env y = some (.agg D.toArray)) (hD : ∀ u ∈ D, u.oneCell' = true) (hsz : ∀ w, (sizeOf t).run P w = .ok sz w) (hl : D.length = sz)
    (hb : w.heap[b]? = some (.cells C.toArray bt (0, 0))) (hC : C.length = sz) (hS : ∀ w', w.grownBy w' (some b) → S w')
    (k : ∀ a' w', Has n env a' → w.grownBy w' (some b) → w'.heap[b]? = some (.cells D.toArray bt (0, 0)) → wpT P ops Q S T st r a' w') : wpT P ops Q S T st (.op i r) a w :=
  cs ha hi hc (r_storeR ha hx hy hD hsz hl hb (by omega)) rfl rfl (fun _ => hS _ (grown_setRow w b _)) fun _ ha' => k _ _ ha' (grown_setRow w b _) (by rw [show C.take 0 ++ D ++ C.drop (0 + D.length) = D by simp [hl, hC]]; exact setRow_new hb)
end
end T
end Go.Rx

/- One step of the document's product, case by case. -/
namespace Go.Rx
theorem rprJ_lt (p q : List Int) (i : Nat) (out : List Int) (j : Nat) (h : i + j < 256) : rprJ p q i out (j + 1) = (rprJ p q i out j).set (i + j) (((tn (rprJ p q i out j) (i + j) + tn p i * tn q j % 3329) % 3329 : Nat) : Int) := by
  rw [rprJ, if_pos h]
theorem rprJ_ge (p q : List Int) (i : Nat) (out : List Int) (j : Nat) (h : ¬ i + j < 256) : rprJ p q i out (j + 1) = (rprJ p q i out j).set (i + j - 256) (((tn (rprJ p q i out j) (i + j - 256) + 3329 - tn p i * tn q j % 3329) % 3329 : Nat) : Int) := by
  rw [rprJ, if_neg h]
end Go.Rx

/- Plain functions of layer 13: rows of polynomials, keys, what is encrypted. -/
namespace Go.Rx
abbrev zero768 : List Int := List.replicate 768 0
theorem z768_len : zero768.length = 768 := List.length_replicate
def small2 (seed : List UInt8) (n : Nat) : List Int := noA 2 (prfB (2 : Int) seed (UInt8.ofNat n)) 256
theorem small2_len (seed : List UInt8) (n : Nat) : (small2 seed n).length = 256 := noA_len _ _ _
def smA (seed : List UInt8) (n : Nat) : Nat → List Int
  | 0 => zero768
  | i + 1 => rs (smA seed n i) i (small2 seed (n + i))
theorem rs_len768 (l : List Int) (i : Nat) (d : List Int) (hl : l.length = 768) (hd : d.length = 256) (hi : i < 3) : (rs l i d).length = 768 := by rw [rs_len l i d (by omega) hd, hl]
theorem smA_len (seed : List UInt8) (n : Nat) : ∀ i, i ≤ 3 → (smA seed n i).length = 768
  | 0, _ => z768_len
  | i + 1, h => by rw [smA]; exact rs_len768 _ _ _ (smA_len seed n i (by omega)) (small2_len _ _) (by omega)
def eaR (f : List Int → List Int) (r : List Int) : Nat → List Int
  | 0 => r
  | i + 1 => rs (eaR f r i) i (f (rg (eaR f r i) i))
theorem eaR_len (f : List Int → List Int) (hf : ∀ p, p.length = 256 → (f p).length = 256) (r : List Int) (hr : r.length = 768) : ∀ i, i ≤ 3 → (eaR f r i).length = 768
  | 0, _ => hr
  | i + 1, h => by
    have ih := eaR_len f hf r hr i (by omega)
    rw [eaR]; exact rs_len768 _ _ _ ih (hf _ (rg_len _ _ (by omega))) (by omega)
theorem fwd_len (p : List Int) (hp : p.length = 256) : (fwd p).length = 256 := (fwd_red p hp).len
theorem inv_len (p : List Int) (hp : p.length = 256) : (inv p).length = 256 := (inv_red p hp).len
theorem pl_len (p q : List Int) (hp : p.length = 256) : (pl p q).length = 256 := (pl_red p q hp).len
def mat (rho : List UInt8) (i j : Nat) : List Int := uni [rho, ([UInt8.ofNat j, UInt8.ofNat i] : List UInt8)].flatten
theorem mat_len (rho : List UInt8) (i j : Nat) : (mat rho i j).length = 256 := uni_len _
def tiB (M : Nat → Nat → List Int) (r o : List Int) (i : Nat) : Nat → List Int
  | 0 => o
  | j + 1 => rs (tiB M r o i j) i (pl (rg (tiB M r o i j) i) (tms (M i j) (rg r j)))
theorem tiB_len (M : Nat → Nat → List Int) (r o : List Int) (ho : o.length = 768) (i : Nat) (hi : i < 3) : ∀ j, (tiB M r o i j).length = 768
  | 0 => ho
  | j + 1 => by
    have ih := tiB_len M r o ho i hi j
    rw [tiB]; exact rs_len768 _ _ _ ih (pl_len _ _ (rg_len _ _ (by omega))) hi
def tiA (M : Nat → Nat → List Int) (r : List Int) : Nat → List Int
  | 0 => zero768
  | i + 1 => tiB M r (tiA M r i) i 3
theorem tiA_len (M : Nat → Nat → List Int) (r : List Int) : ∀ i, i ≤ 3 → (tiA M r i).length = 768
  | 0, _ => z768_len
  | i + 1, h => by rw [tiA]; exact tiB_len M r _ (tiA_len M r i (by omega)) i (by omega) 3
def plR (r s : List Int) : Nat → List Int
  | 0 => r
  | i + 1 => rs (plR r s i) i (pl (rg (plR r s i) i) (rg s i))
theorem plR_len (r s : List Int) (hr : r.length = 768) : ∀ i, i ≤ 3 → (plR r s i).length = 768
  | 0, _ => hr
  | i + 1, h => by
    have ih := plR_len r s hr i (by omega)
    rw [plR]; exact rs_len768 _ _ _ ih (pl_len _ _ (rg_len _ _ (by omega))) (by omega)
def dotA (a b : List Int) : Nat → List Int
  | 0 => zero256
  | i + 1 => pl (dotA a b i) (tms (rg a i) (rg b i))
theorem dotA_len (a b : List Int) : ∀ i, (dotA a b i).length = 256
  | 0 => List.length_replicate
  | i + 1 => by rw [dotA]; exact pl_len _ _ (dotA_len a b i)
def pkR (d : Nat) (r : List Int) : Nat → List UInt8
  | 0 => []
  | i + 1 => pkR d r i ++ paA d (rg r i) 256
theorem pkR_len (d : Nat) (r : List Int) : ∀ i, (pkR d r i).length = 32 * d * i
  | 0 => rfl
  | i + 1 => by rw [pkR, List.length_append, pkR_len d r i, paA_len, Nat.mul_succ]
def unR (d : Nat) (b : List UInt8) : Nat → List Int
  | 0 => zero768
  | i + 1 => rs (unR d b i) i (unA d ((b.drop (32 * d * i)).take (32 * d)) 256)
theorem unR_len (d : Nat) (b : List UInt8) : ∀ i, i ≤ 3 → (unR d b i).length = 768
  | 0, _ => z768_len
  | i + 1, h => by rw [unR]; exact rs_len768 _ _ _ (unR_len d b i (by omega)) (unA_len _ _ _) (by omega)
theorem cut0 {α : Type} (l : List α) (n : Nat) : (l.drop 0).take (n - 0) = l.take n := by simp
theorem cutE {α : Type} (l : List α) (k n : Nat) (h : l.length = n) : (l.drop k).take (n - k) = l.drop k := List.take_of_length_le (by rw [List.length_drop]; omega)
theorem cutM {α : Type} (l : List α) (k n m : Nat) (h : m = k + n) : (l.drop k).take (m - k) = (l.drop k).take n := by rw [h, Nat.add_sub_cancel_left]
/-! ### Keys -/
def gG (d : List UInt8) : List UInt8 := sum512 [d, ([3] : List UInt8)].flatten
theorem gG_len (d : List UInt8) : (gG d).length = 64 := sum512_len _
def gRho (d : List UInt8) : List UInt8 := (gG d).take 32
theorem gRho_len (d : List UInt8) : (gRho d).length = 32 := by rw [gRho, List.length_take, gG_len]; rfl
def gSeed (d : List UInt8) : List UInt8 := (gG d).drop 32
theorem gSeed_len (d : List UInt8) : (gSeed d).length = 32 := by rw [gSeed, List.length_drop, gG_len]
def gS (d : List UInt8) : List Int := eaR fwd (smA (gSeed d) 0 3) 3
def gT (d : List UInt8) : List Int := plR (tiA (mat (gRho d)) (gS d) 3) (eaR fwd (smA (gSeed d) 3 3) 3) 3
def ek1 (d : List UInt8) : List UInt8 := [pkR 12 (gT d) 3, gRho d].flatten
def dk1 (d : List UInt8) : List UInt8 := pkR 12 (gS d) 3
theorem ek1_len (d : List UInt8) : (ek1 d).length = 1184 := by
  have h1 := pkR_len 12 (gT d) 3; have h2 := gRho_len d
  simp only [ek1, List.flatten_cons, List.flatten_nil, List.append_nil, List.length_append]; omega
theorem dk1_len (d : List UInt8) : (dk1 d).length = 1152 := pkR_len 12 (gS d) 3
/-! ### What is encrypted -/
def matT (rho : List UInt8) (i j : Nat) : List Int := mat rho j i
theorem matT_len (rho : List UInt8) (i j : Nat) : (matT rho i j).length = 256 := uni_len _
def sq10 (p : List Int) : List Int := sqA (10 : Int) p 256
theorem sq10_len (p : List Int) (hp : p.length = 256) : (sq10 p).length = 256 := by rw [sq10, sqA_len, hp]
def fsp (p : List Int) : List Int := fwd (spA (10 : Int) p 256)
theorem fsp_len (p : List Int) (hp : p.length = 256) : (fsp p).length = 256 := fwd_len _ (by rw [spA_len, hp])
def eY (r : List UInt8) : List Int := eaR fwd (smA r 0 3) 3
def eU0 (ek r : List UInt8) : List Int := eaR inv (tiA (matT (ek.drop 1152)) (eY r) 3) 3
theorem eU0_len (ek r : List UInt8) : (eU0 ek r).length = 768 := eaR_len _ inv_len _ (tiA_len _ _ 3 (by omega)) 3 (by omega)
def eU (ek r : List UInt8) : List Int := plR (eU0 ek r) (smA r 3 3) 3
theorem eU_len (ek r : List UInt8) : (eU ek r).length = 768 := plR_len _ _ (eU0_len ek r) 3 (by omega)
def eV (ek m r : List UInt8) : List Int := pl (pl (inv (dotA (unR 12 (ek.take 1152) 3) (eY r) 3)) (small2 r 6)) (spA (1 : Int) (unA 1 m 256) 256)
def enc1 (ek m r : List UInt8) : List UInt8 := [pkR 10 (eaR sq10 (eU ek r) 3) 3, paA 4 (sqA (4 : Int) (eV ek m r) 256) 256].flatten
theorem enc1_len (ek m r : List UInt8) : (enc1 ek m r).length = 1088 := by
  have h1 := pkR_len 10 (eaR sq10 (eU ek r) 3) 3; have h2 := paA_len 4 (sqA (4 : Int) (eV ek m r) 256) 256
  simp only [enc1, List.flatten_cons, List.flatten_nil, List.append_nil, List.length_append]; omega
def dU (c : List UInt8) : List Int := eaR fsp (unR 10 (c.take 960) 3) 3
def dW (dk c : List UInt8) : List Int := mi (spA (4 : Int) (unA 4 (c.drop 960) 256) 256) (inv (dotA (unR 12 dk 3) (dU c) 3))
def dec1 (dk c : List UInt8) : List UInt8 := paA 1 (sqA (1 : Int) (dW dk c) 256) 256
end Go.Rx

/- Several operations that yield values, at once, in a tree of orders. -/
namespace Go.Rx.T
open Go.RowKit Go.Rx
section
variable {P : Program} {ops : Array Oper} {Q : Exit → Act → World → Prop} {S : World → Prop} {T st : List Nat} {a : Act} {w : World} {r : Ord} {n : Nat} {env : Env}
theorem c1 {i1 : Nat} {o1 : Oper} {d1 : Nat} {v1 : Value} (ha : Has n env a) (hk : vc ops st n [i1] = some [(o1, d1)]) (r1 : ∀ w, S w → ∀ a, Has n env a → (execOp a.eval o1).run P w = .ok (.value v1) w) (k : ∀ a', Has n ((d1, v1) :: env) a' → wpT P ops Q S T st r a' w) : wpT P ops Q S T st (.op i1 r) a w := by
  obtain ⟨hi1, hc1, g1, e1, b1, hk⟩ := vc_cons hk
  exact Go.Rx.T.cv ha hi1 hc1 (fun w hS => r1 w hS _ ha) g1 e1 b1 fun a ha => k _ ha
theorem c3 {i1 i2 i3 : Nat} {o1 o2 o3 : Oper} {d1 d2 d3 : Nat} {v1 v2 v3 : Value} (ha : Has n env a) (hk : vc ops st n [i1, i2, i3] = some [(o1, d1), (o2, d2), (o3, d3)]) (r1 : ∀ w, S w → ∀ a, Has n env a → (execOp a.eval o1).run P w = .ok (.value v1) w) (r2 : ∀ w, S w → ∀ a, Has n ((d1, v1) :: env) a → (execOp a.eval o2).run P w = .ok (.value v2) w) (r3 : ∀ w, S w → ∀ a, Has n ((d2, v2) :: ((d1, v1) :: env)) a → (execOp a.eval o3).run P w = .ok (.value v3) w) (k : ∀ a', Has n ((d3, v3) :: ((d2, v2) :: ((d1, v1) :: env))) a' → wpT P ops Q S T st r a' w) : wpT P ops Q S T st (.op i1 (.op i2 (.op i3 r))) a w := by
  obtain ⟨hi1, hc1, g1, e1, b1, hk⟩ := vc_cons hk
  obtain ⟨hi2, hc2, g2, e2, b2, hk⟩ := vc_cons hk
  obtain ⟨hi3, hc3, g3, e3, b3, hk⟩ := vc_cons hk
  exact Go.Rx.T.cv ha hi1 hc1 (fun w hS => r1 w hS _ ha) g1 e1 b1 fun a ha => Go.Rx.T.cv ha hi2 hc2 (fun w hS => r2 w hS _ ha) g2 e2 b2 fun a ha => Go.Rx.T.cv ha hi3 hc3 (fun w hS => r3 w hS _ ha) g3 e3 b3 fun a ha => k _ ha
theorem c4 {i1 i2 i3 i4 : Nat} {o1 o2 o3 o4 : Oper} {d1 d2 d3 d4 : Nat} {v1 v2 v3 v4 : Value} (ha : Has n env a) (hk : vc ops st n [i1, i2, i3, i4] = some [(o1, d1), (o2, d2), (o3, d3), (o4, d4)]) (r1 : ∀ w, S w → ∀ a, Has n env a → (execOp a.eval o1).run P w = .ok (.value v1) w) (r2 : ∀ w, S w → ∀ a, Has n ((d1, v1) :: env) a → (execOp a.eval o2).run P w = .ok (.value v2) w) (r3 : ∀ w, S w → ∀ a, Has n ((d2, v2) :: ((d1, v1) :: env)) a → (execOp a.eval o3).run P w = .ok (.value v3) w) (r4 : ∀ w, S w → ∀ a, Has n ((d3, v3) :: ((d2, v2) :: ((d1, v1) :: env))) a → (execOp a.eval o4).run P w = .ok (.value v4) w) (k : ∀ a', Has n ((d4, v4) :: ((d3, v3) :: ((d2, v2) :: ((d1, v1) :: env)))) a' → wpT P ops Q S T st r a' w) : wpT P ops Q S T st (.op i1 (.op i2 (.op i3 (.op i4 r)))) a w := by
  obtain ⟨hi1, hc1, g1, e1, b1, hk⟩ := vc_cons hk
  obtain ⟨hi2, hc2, g2, e2, b2, hk⟩ := vc_cons hk
  obtain ⟨hi3, hc3, g3, e3, b3, hk⟩ := vc_cons hk
  obtain ⟨hi4, hc4, g4, e4, b4, hk⟩ := vc_cons hk
  exact Go.Rx.T.cv ha hi1 hc1 (fun w hS => r1 w hS _ ha) g1 e1 b1 fun a ha => Go.Rx.T.cv ha hi2 hc2 (fun w hS => r2 w hS _ ha) g2 e2 b2 fun a ha => Go.Rx.T.cv ha hi3 hc3 (fun w hS => r3 w hS _ ha) g3 e3 b3 fun a ha => Go.Rx.T.cv ha hi4 hc4 (fun w hS => r4 w hS _ ha) g4 e4 b4 fun a ha => k _ ha
end
end Go.Rx.T

/- WALKS written by gen.py (own program) out of specs. -/
namespace Go.Proofs.YtaignhikdfpbbaaGreatDoor
open Go.RowKit Go.Rx
set_option maxRecDepth 100000
set_option maxHeartbeats 4000000
set_option linter.unusedVariables false
set_option linter.unusedSimpArgs false

theorem zero_50M1 : ∀ w, (zeroValue 50).run Tryz.prog w = .ok (.agg ((List.replicate 256 (0 : Int)).map ei).toArray) w := fun _ => by kernel_rfl
theorem c_small (v : Value) (seed : List UInt8) (n : Nat) (w0 : World) (hs : Sl w0 v (seed.map e8)) (hk : seed.length ≤ 50000) (hn : n ≤ 1000) (hG : Glob w0) :
    Calls Tryz.prog 48 #[v, en n] w0 fun e w' => e = .returned (.agg ((small2 seed n).map ei).toArray) ∧ Below w0.heap.size w0 w' := by
 refine enter (args := [_, _]) Tryz.func48 rfl Tryz.ntmps48 rfl ?_
 intro a ha
 have hB := Below.refl w0.heap.size w0
 refine qr fun K1 k2 => ?_
 refine salloc ha zero_50M1 rfl ?_
 intro a w3 b4 ha hg hb4 hge4 hlt4
 have hz4 := Nat.le_trans hB.size hge4
 replace hB := keepB0 hg hB
 refine k2 _ _ ?_
 refine qr fun K5 k6 => ?_
 refine s3 ha rfl (mv rfl) (mv rfl) (fun _ ha => r_conv_n_u8w ha n Tryz.runUnderlying3 Tryz.runUnderlying5 rfl) ?_; intro a ha
 refine scp ha (r_call ha [en 2, v, e8 (UInt8.ofNat n)] rfl Tryz.call97) rfl rfl rfl (c_prf1 2 v seed (UInt8.ofNat n) _ (by omega) (hs.below hB) (by omega) (glob_keep hG hB)) ?_; intro w7 hg a ha
 replace hB := keepB0 hg hB
 replace hb4 := keepO0 hg hb4
 refine s3 ha rfl (mv rfl) (fun _ ha => r_extract ha (vs := #[.agg ((noA 2 (prfB (2 : Int) seed (UInt8.ofNat n)) 256).map ei).toArray, en 0]) rfl rfl) (fun _ ha => r_extract ha (vs := #[.agg ((noA 2 (prfB (2 : Int) seed (UInt8.ofNat n)) 256).map ei).toArray, en 0]) rfl rfl) ?_; intro a ha
 refine salloc ha zero_50M1 rfl ?_
 intro a w8 b9 ha hg hb9 hge9 hlt9
 have hz9 := Nat.le_trans hB.size hge9
 have hq4_9 := bl hb4 hge9
 replace hB := keepB0 hg hB
 replace hb4 := keepO0 hg hb4
 refine sstoreW ha rfl rfl (one_ei _) Tryz.sizeOf50 (by rw [List.length_map, noA_len]) hb9 (by rw [List.length_map, List.length_replicate]) ?_
 intro a w10 ha hg hb9'
 replace hb9 := hb9'
 replace hB := keepB1 hg (by omega) hB
 replace hb4 := keepO1 hg (by omega) hb4
 refine s1 ha rfl (av rfl) ?_; intro a ha
 refine k6 _ _ ?_
 refine qr fun K11 k12 => ?_
 refine s1 ha rfl (fun _ ha => r_loadR ha rfl Tryz.isAgg50 Tryz.sizeOf50 (C := (noA 2 (prfB (2 : Int) seed (UInt8.ofNat n)) 256).map ei) (by rw [List.length_map, noA_len]) (cells_all hb9)) ?_; intro a ha
 refine sstoreW ha rfl rfl (one_ei _) Tryz.sizeOf50 (by rw [List.length_map, noA_len]) hb4 (by rw [List.length_map, List.length_replicate]) ?_
 intro a w13 ha hg hb4'
 replace hb4 := hb4'
 replace hB := keepB1 hg (by omega) hB
 replace hb9 := keepO1 hg (by omega) hb9
 refine k12 _ _ ?_
 refine wp_ret ?_
 exact retC _ ha Tryz.results48 rfl hb4 Tryz.underlying50 rfl (by rw [List.length_map, noA_len]; kernel_rfl) ⟨rfl, hB⟩

theorem zero_52M1 : ∀ w, (zeroValue 52).run Tryz.prog w = .ok (.agg ((List.replicate 768 (0 : Int)).map ei).toArray) w := fun _ => by kernel_rfl
theorem c_smalls (v : Value) (seed : List UInt8) (n : Nat) (w0 : World) (hs : Sl w0 v (seed.map e8)) (hk : seed.length ≤ 50000) (hn : n ≤ 900) (hG : Glob w0) :
    Calls Tryz.prog 37 #[v, en n] w0 fun e w' => e = .returned (.agg ((smA seed n 3).map ei).toArray) ∧ Below w0.heap.size w0 w' := by
 refine enter (args := [_, _]) Tryz.func37 rfl Tryz.ntmps37 rfl ?_
 intro a ha
 have hB := Below.refl w0.heap.size w0
 refine qr fun K1 k2 => ?_
 refine salloc ha zero_52M1 rfl ?_
 intro a w3 b4 ha hg hb4 hge4 hlt4
 have hz4 := Nat.le_trans hB.size hge4
 replace hB := keepB0 hg hB
 refine k2 _ _ ?_
 refine qr fun K5 k6 => ?_
 refine salloc ha zero_52M1 rfl ?_
 intro a w7 b8 ha hg hb8 hge8 hlt8
 have hz8 := Nat.le_trans hB.size hge8
 have hq4_8 := bl hb4 hge8
 replace hB := keepB0 hg hB
 replace hb4 := keepO0 hg hb4
 refine k6 _ _ ?_
 refine wp_seq_k fun K9 k10 => ?_
 refine qr fun K11 k12 => ?_
 refine s1 ha rfl (mv rfl) ?_; intro a ha
 refine k12 _ _ ?_
 refine wp_block ?_
 refine loopG (fun (i : Nat) a w => (i ≤ 3) ∧ Has 19 [(0, v), (1, en n), (4, .pointer (some ⟨b4, 0, none⟩)), (5, .pointer (some ⟨b8, 0, none⟩)), (7, en i)] a ∧ Below w0.heap.size w0 w ∧ w.heap[b4]? = some (.cells ((List.replicate 768 (0 : Int)).map ei).toArray 52 (0, 0)) ∧ w.heap[b8]? = some (.cells ((smA seed n i).map ei).toArray 52 (0, 0))) (fun i => 3 - i) 0 ⟨(by omega), ha.to [0, 1, 4, 5, 7] rfl, hB, hb4, hb8⟩ ?_
 clear ha a hB hb4 hb8
 intro i a w13 ⟨hki, ha, hB, hb4, hb8⟩
 refine qr fun K14 k15 => ?_
 refine s1 ha rfl (fun _ ha => r_lss ha ((i : Nat) : Int) 3 (decide (i < 3)) rfl rfl (decide_eq_decide.2 (by omega))) ?_; intro a ha
 refine k15 _ _ ?_
 refine wp_seq_k fun K16 k17 => ?_
 refine cond_if ha rfl (fun hc18 => ?_) (fun hc18 => ?_)
 ·skip
  replace hc18 := of_decide_eq_true hc18
  refine wp_skip ?_
  refine k17 _ _ ?_
  refine wp_seq_k fun K19 k20 => ?_
  refine wp_block ?_
  refine qr fun K21 k22 => ?_
  refine s2 ha rfl (mv rfl) (av rfl) ?_; intro a ha
  refine k22 _ _ ?_
  refine region ?_
  refine s5 ha rfl (mv rfl) (mv rfl) (mv rfl) (mv rfl) (fun _ ha => rn_add ha n i rfl rfl (by omega)) ?_; intro a ha
  refine scp ha (r_call ha [v, en (n + i)] rfl Tryz.call48) rfl rfl rfl (c_small v seed (n + i) _ (hs.below hB) (by omega) (by omega) (glob_keep hG hB)) ?_; intro w23 hg a ha
  replace hB := keepB0 hg hB
  replace hb4 := keepO0 hg hb4
  replace hb8 := keepO0 hg hb8
  refine s1 ha rfl (fun _ ha => r_indexArr (i := i) ha (i * 256) Tryz.runUnderlying52 Tryz.sizeOf50 rfl rfl (by omega) (by omega)) ?_; intro a ha
  refine sstoreR ha rfl rfl (one_ei _) Tryz.sizeOf50 (by rw [List.length_map, small2_len]) hb8 (by simp only [List.length_map]; rw [small2_len, smA_len _ _ _ (by omega)]; omega) ?_
  intro a w24 ha hg hb8'
  rw [rs_map _ _ _ (by rw [small2_len])] at hb8'
  replace hb8 := hb8'
  replace hB := keepB1 hg (by omega) hB
  replace hb4 := keepO1 hg (by omega) hb4
  refine k20 _ _ ?_
  refine region ?_
  refine s2 ha rfl (fun _ ha => rn_add ha i 1 rfl rfl (by omega)) (mv rfl) ?_; intro a ha
  exact ⟨i + 1, by omega, (by omega), ha.to [0, 1, 4, 5, 7] rfl, hB, hb4, hb8⟩
 ·skip
  replace hc18 := of_decide_eq_false hc18
  refine wp_exit ?_
  obtain rfl : i = 3 := by omega
  refine k10 _ _ ?_
  refine qr fun K25 k26 => ?_
  refine s1 ha rfl (fun _ ha => r_loadR ha rfl Tryz.isAgg52 Tryz.sizeOf52 (C := (smA seed n 3).map ei) (by rw [List.length_map, smA_len _ _ _ (by omega)]) (cells_all hb8)) ?_; intro a ha
  refine sstoreW ha rfl rfl (one_ei _) Tryz.sizeOf52 (by rw [List.length_map, smA_len _ _ _ (by omega)]) hb4 (by rw [List.length_map, List.length_replicate]) ?_
  intro a w27 ha hg hb4'
  replace hb4 := hb4'
  replace hB := keepB1 hg (by omega) hB
  replace hb8 := keepO1 hg (by omega) hb8
  refine k26 _ _ ?_
  refine wp_ret ?_
  exact retC _ ha Tryz.results37 rfl hb4 Tryz.underlying52 rfl (by rw [List.length_map, smA_len _ _ _ (by omega)]; kernel_rfl) ⟨rfl, hB⟩

theorem c_eachFr (r : List Int) (w0 : World) (hr : r.length = 768) (hG : Glob w0) (hP : GlobP w0) :
    Calls Tryz.prog 38 #[.agg ((r).map ei).toArray, .func (.func 39) #[] #[]] w0 fun e w' => e = .returned (.agg ((eaR fwd r 3).map ei).toArray) ∧ Below w0.heap.size w0 w' := by
 refine enter (args := [_, _]) Tryz.func38 rfl Tryz.ntmps38 rfl ?_
 intro a ha
 have hB := Below.refl w0.heap.size w0
 refine qr fun K1 k2 => ?_
 refine sbox ha rfl rfl ?_
 intro a w3 b4 ha hg hb4 hge4 hlt4
 have hz4 := Nat.le_trans hB.size hge4
 replace hB := keepB0 hg hB
 refine salloc ha zero_52M1 rfl ?_
 intro a w5 b6 ha hg hb6 hge6 hlt6
 have hz6 := Nat.le_trans hB.size hge6
 have hq4_6 := bl hb4 hge6
 replace hB := keepB0 hg hB
 replace hb4 := keepO0 hg hb4
 refine k2 _ _ ?_
 refine wp_seq_k fun K7 k8 => ?_
 refine qr fun K9 k10 => ?_
 refine s1 ha rfl (mv rfl) ?_; intro a ha
 refine k10 _ _ ?_
 refine wp_block ?_
 refine loopG (fun (i : Nat) a w => (i ≤ 3) ∧ Has 18 [(1, .func (.func 39) #[] #[]), (2, .pointer (some ⟨b4, 0, none⟩)), (4, .pointer (some ⟨b6, 0, none⟩)), (6, en i)] a ∧ Below w0.heap.size w0 w ∧ w.heap[b4]? = some (.cells ((eaR fwd r i).map ei).toArray 52 (0, 0)) ∧ w.heap[b6]? = some (.cells ((List.replicate 768 (0 : Int)).map ei).toArray 52 (0, 0))) (fun i => 3 - i) 0 ⟨(by omega), ha.to [1, 2, 4, 6] rfl, hB, hb4, hb6⟩ ?_
 clear ha a hB hb4 hb6
 intro i a w11 ⟨hki, ha, hB, hb4, hb6⟩
 refine qr fun K12 k13 => ?_
 refine s1 ha rfl (fun _ ha => r_lss ha ((i : Nat) : Int) 3 (decide (i < 3)) rfl rfl (decide_eq_decide.2 (by omega))) ?_; intro a ha
 refine k13 _ _ ?_
 refine wp_seq_k fun K14 k15 => ?_
 refine cond_if ha rfl (fun hc16 => ?_) (fun hc16 => ?_)
 ·skip
  replace hc16 := of_decide_eq_true hc16
  refine wp_skip ?_
  refine k15 _ _ ?_
  refine wp_seq_k fun K17 k18 => ?_
  refine wp_block ?_
  refine qr fun K19 k20 => ?_
  refine s2 ha rfl (mv rfl) (av rfl) ?_; intro a ha
  refine k20 _ _ ?_
  refine region ?_
  refine s5 ha rfl (mv rfl) (mv rfl) (mv rfl) (fun _ ha => r_indexArr (i := i) ha (i * 256) Tryz.runUnderlying52 Tryz.sizeOf50 rfl rfl (by omega) (by omega)) (fun _ ha => r_loadR ha rfl Tryz.isAgg50 Tryz.sizeOf50 (C := (rg (eaR fwd r i) i).map ei) (by rw [List.length_map, rg_len _ _ (by rw [eaR_len _ fwd_len _ (by rw [hr]) _ (by omega)]; omega)]) (cells_of (i * 256) hb4 (rg_map _ _ (by rw [eaR_len _ fwd_len _ (by rw [hr]) _ (by omega)]; omega)))) ?_; intro a ha
  refine scp ha (r_callV ha (cap := #[]) [.agg (((rg (eaR fwd r i) i)).map ei).toArray] rfl rfl Tryz.call39) rfl rfl rfl (c_fwd (rg (eaR fwd r i) i) _ (by rw [rg_len _ _ (by rw [eaR_len _ fwd_len _ (by rw [hr]) _ (by omega)]; omega)]) (globP_keep hP hB)) ?_; intro w21 hg a ha
  replace hB := keepB0 hg hB
  replace hb4 := keepO0 hg hb4
  replace hb6 := keepO0 hg hb6
  refine s1 ha rfl (fun _ ha => r_indexArr (i := i) ha (i * 256) Tryz.runUnderlying52 Tryz.sizeOf50 rfl rfl (by omega) (by omega)) ?_; intro a ha
  refine sstoreR ha rfl rfl (one_ei _) Tryz.sizeOf50 (by rw [List.length_map, (fwd_red _ (by rw [rg_len _ _ (by rw [eaR_len _ fwd_len _ (by rw [hr]) _ (by omega)]; omega)])).len]) hb4 (by simp only [List.length_map]; rw [(fwd_red _ (by rw [rg_len _ _ (by rw [eaR_len _ fwd_len _ (by rw [hr]) _ (by omega)]; omega)])).len, eaR_len _ fwd_len _ (by rw [hr]) _ (by omega)]; omega) ?_
  intro a w22 ha hg hb4'
  rw [rs_map _ _ _ (by rw [(fwd_red _ (by rw [rg_len _ _ (by rw [eaR_len _ fwd_len _ (by rw [hr]) _ (by omega)]; omega)])).len])] at hb4'
  replace hb4 := hb4'
  replace hB := keepB1 hg (by omega) hB
  replace hb6 := keepO1 hg (by omega) hb6
  refine k18 _ _ ?_
  refine region ?_
  refine s2 ha rfl (fun _ ha => rn_add ha i 1 rfl rfl (by omega)) (mv rfl) ?_; intro a ha
  exact ⟨i + 1, by omega, (by omega), ha.to [1, 2, 4, 6] rfl, hB, hb4, hb6⟩
 ·skip
  replace hc16 := of_decide_eq_false hc16
  refine wp_exit ?_
  obtain rfl : i = 3 := by omega
  refine k8 _ _ ?_
  refine qr fun K23 k24 => ?_
  refine s1 ha rfl (fun _ ha => r_loadR ha rfl Tryz.isAgg52 Tryz.sizeOf52 (C := (eaR fwd r 3).map ei) (by rw [List.length_map, eaR_len _ fwd_len _ (by rw [hr]) _ (by omega)]) (cells_all hb4)) ?_; intro a ha
  refine sstoreW ha rfl rfl (one_ei _) Tryz.sizeOf52 (by rw [List.length_map, eaR_len _ fwd_len _ (by rw [hr]) _ (by omega)]) hb6 (by rw [List.length_map, List.length_replicate]) ?_
  intro a w25 ha hg hb6'
  replace hb6 := hb6'
  replace hB := keepB1 hg (by omega) hB
  replace hb4 := keepO1 hg (by omega) hb4
  refine k24 _ _ ?_
  refine wp_ret ?_
  exact retC _ ha Tryz.results38 rfl hb6 Tryz.underlying52 rfl (by rw [List.length_map, eaR_len _ fwd_len _ (by rw [hr]) _ (by omega)]; kernel_rfl) ⟨rfl, hB⟩

theorem c_eachIr (r : List Int) (w0 : World) (hr : r.length = 768) (hG : Glob w0) (hP : GlobP w0) :
    Calls Tryz.prog 38 #[.agg ((r).map ei).toArray, .func (.func 43) #[] #[]] w0 fun e w' => e = .returned (.agg ((eaR inv r 3).map ei).toArray) ∧ Below w0.heap.size w0 w' := by
 refine enter (args := [_, _]) Tryz.func38 rfl Tryz.ntmps38 rfl ?_
 intro a ha
 have hB := Below.refl w0.heap.size w0
 refine qr fun K1 k2 => ?_
 refine sbox ha rfl rfl ?_
 intro a w3 b4 ha hg hb4 hge4 hlt4
 have hz4 := Nat.le_trans hB.size hge4
 replace hB := keepB0 hg hB
 refine salloc ha zero_52M1 rfl ?_
 intro a w5 b6 ha hg hb6 hge6 hlt6
 have hz6 := Nat.le_trans hB.size hge6
 have hq4_6 := bl hb4 hge6
 replace hB := keepB0 hg hB
 replace hb4 := keepO0 hg hb4
 refine k2 _ _ ?_
 refine wp_seq_k fun K7 k8 => ?_
 refine qr fun K9 k10 => ?_
 refine s1 ha rfl (mv rfl) ?_; intro a ha
 refine k10 _ _ ?_
 refine wp_block ?_
 refine loopG (fun (i : Nat) a w => (i ≤ 3) ∧ Has 18 [(1, .func (.func 43) #[] #[]), (2, .pointer (some ⟨b4, 0, none⟩)), (4, .pointer (some ⟨b6, 0, none⟩)), (6, en i)] a ∧ Below w0.heap.size w0 w ∧ w.heap[b4]? = some (.cells ((eaR inv r i).map ei).toArray 52 (0, 0)) ∧ w.heap[b6]? = some (.cells ((List.replicate 768 (0 : Int)).map ei).toArray 52 (0, 0))) (fun i => 3 - i) 0 ⟨(by omega), ha.to [1, 2, 4, 6] rfl, hB, hb4, hb6⟩ ?_
 clear ha a hB hb4 hb6
 intro i a w11 ⟨hki, ha, hB, hb4, hb6⟩
 refine qr fun K12 k13 => ?_
 refine s1 ha rfl (fun _ ha => r_lss ha ((i : Nat) : Int) 3 (decide (i < 3)) rfl rfl (decide_eq_decide.2 (by omega))) ?_; intro a ha
 refine k13 _ _ ?_
 refine wp_seq_k fun K14 k15 => ?_
 refine cond_if ha rfl (fun hc16 => ?_) (fun hc16 => ?_)
 ·skip
  replace hc16 := of_decide_eq_true hc16
  refine wp_skip ?_
  refine k15 _ _ ?_
  refine wp_seq_k fun K17 k18 => ?_
  refine wp_block ?_
  refine qr fun K19 k20 => ?_
  refine s2 ha rfl (mv rfl) (av rfl) ?_; intro a ha
  refine k20 _ _ ?_
  refine region ?_
  refine s5 ha rfl (mv rfl) (mv rfl) (mv rfl) (fun _ ha => r_indexArr (i := i) ha (i * 256) Tryz.runUnderlying52 Tryz.sizeOf50 rfl rfl (by omega) (by omega)) (fun _ ha => r_loadR ha rfl Tryz.isAgg50 Tryz.sizeOf50 (C := (rg (eaR inv r i) i).map ei) (by rw [List.length_map, rg_len _ _ (by rw [eaR_len _ inv_len _ (by rw [hr]) _ (by omega)]; omega)]) (cells_of (i * 256) hb4 (rg_map _ _ (by rw [eaR_len _ inv_len _ (by rw [hr]) _ (by omega)]; omega)))) ?_; intro a ha
  refine scp ha (r_callV ha (cap := #[]) [.agg (((rg (eaR inv r i) i)).map ei).toArray] rfl rfl Tryz.call43) rfl rfl rfl (c_inv (rg (eaR inv r i) i) _ (by rw [rg_len _ _ (by rw [eaR_len _ inv_len _ (by rw [hr]) _ (by omega)]; omega)]) (globP_keep hP hB)) ?_; intro w21 hg a ha
  replace hB := keepB0 hg hB
  replace hb4 := keepO0 hg hb4
  replace hb6 := keepO0 hg hb6
  refine s1 ha rfl (fun _ ha => r_indexArr (i := i) ha (i * 256) Tryz.runUnderlying52 Tryz.sizeOf50 rfl rfl (by omega) (by omega)) ?_; intro a ha
  refine sstoreR ha rfl rfl (one_ei _) Tryz.sizeOf50 (by rw [List.length_map, (inv_red _ (by rw [rg_len _ _ (by rw [eaR_len _ inv_len _ (by rw [hr]) _ (by omega)]; omega)])).len]) hb4 (by simp only [List.length_map]; rw [(inv_red _ (by rw [rg_len _ _ (by rw [eaR_len _ inv_len _ (by rw [hr]) _ (by omega)]; omega)])).len, eaR_len _ inv_len _ (by rw [hr]) _ (by omega)]; omega) ?_
  intro a w22 ha hg hb4'
  rw [rs_map _ _ _ (by rw [(inv_red _ (by rw [rg_len _ _ (by rw [eaR_len _ inv_len _ (by rw [hr]) _ (by omega)]; omega)])).len])] at hb4'
  replace hb4 := hb4'
  replace hB := keepB1 hg (by omega) hB
  replace hb6 := keepO1 hg (by omega) hb6
  refine k18 _ _ ?_
  refine region ?_
  refine s2 ha rfl (fun _ ha => rn_add ha i 1 rfl rfl (by omega)) (mv rfl) ?_; intro a ha
  exact ⟨i + 1, by omega, (by omega), ha.to [1, 2, 4, 6] rfl, hB, hb4, hb6⟩
 ·skip
  replace hc16 := of_decide_eq_false hc16
  refine wp_exit ?_
  obtain rfl : i = 3 := by omega
  refine k8 _ _ ?_
  refine qr fun K23 k24 => ?_
  refine s1 ha rfl (fun _ ha => r_loadR ha rfl Tryz.isAgg52 Tryz.sizeOf52 (C := (eaR inv r 3).map ei) (by rw [List.length_map, eaR_len _ inv_len _ (by rw [hr]) _ (by omega)]) (cells_all hb4)) ?_; intro a ha
  refine sstoreW ha rfl rfl (one_ei _) Tryz.sizeOf52 (by rw [List.length_map, eaR_len _ inv_len _ (by rw [hr]) _ (by omega)]) hb6 (by rw [List.length_map, List.length_replicate]) ?_
  intro a w25 ha hg hb6'
  replace hb6 := hb6'
  replace hB := keepB1 hg (by omega) hB
  replace hb4 := keepO1 hg (by omega) hb4
  refine k24 _ _ ?_
  refine wp_ret ?_
  exact retC _ ha Tryz.results38 rfl hb6 Tryz.underlying52 rfl (by rw [List.length_map, eaR_len _ inv_len _ (by rw [hr]) _ (by omega)]; kernel_rfl) ⟨rfl, hB⟩

theorem c_matrix (v : Value) (rho : List UInt8) (w0 : World) (hs : Sl w0 v (rho.map e8)) :
    Calls Tryz.prog 40 #[v] w0 fun e w' => ∃ bkn, e = .returned (.func (.func 88) #[] #[.pointer (some ⟨bkn, 0, none⟩)]) ∧ Below w0.heap.size w0 w' ∧ w'.heap[bkn]? = some (.cells ([v]).toArray 22 (0, 0)) ∧ w0.heap.size ≤ bkn := by
 refine enter (args := [_]) Tryz.func40 rfl Tryz.ntmps40 rfl ?_
 intro a ha
 have hB := Below.refl w0.heap.size w0
 refine qr fun K1 k2 => ?_
 refine sbox1 ha rfl (Sl.one (hs.below hB)) rfl ?_
 intro a w3 b4 ha hg hb4 hge4 hlt4
 have hz4 := Nat.le_trans hB.size hge4
 replace hB := keepB0 hg hB
 refine s1 ha rfl (av rfl) ?_; intro a ha
 refine k2 _ _ ?_
 refine qr fun K5 k6 => ?_
 refine s2 ha rfl (fun _ ha => r_makeFunc ha [.tmp 1] [.pointer (some ⟨b4, 0, none⟩)] rfl) (av rfl) ?_; intro a ha
 refine k6 _ _ ?_
 refine wp_ret ?_
 exact ret1 ha Tryz.results40 rfl ⟨_, rfl, hB, hb4, hz4⟩

theorem c_matrixF (i j : Nat) (bk : Nat) (v : Value) (rho : List UInt8) (w0 : World) (hij : i ≤ 1000 ∧ j ≤ 1000) (hs : Sl w0 v (rho.map e8)) (hk : rho.length ≤ 50000) (hbk : w0.heap[bk]? = some (.cells ([v]).toArray 22 (0, 0))) (hG : Glob w0) :
    Calls Tryz.prog 88 #[en i, en j, .pointer (some ⟨bk, 0, none⟩)] w0 fun e w' => e = .returned (.agg ((mat rho i j).map ei).toArray) ∧ Below w0.heap.size w0 w' := by
 refine enter (args := [_, _, _]) Tryz.func88 rfl Tryz.ntmps88 rfl ?_
 intro a ha
 have hB := Below.refl w0.heap.size w0
 refine qr fun K1 k2 => ?_
 refine salloc ha zero_50M1 rfl ?_
 intro a w3 b4 ha hg hb4 hge4 hlt4
 have hz4 := Nat.le_trans hB.size hge4
 have hqk_4 := bl hbk hge4
 replace hB := keepB0 hg hB
 replace hbk := keepO0 hg hbk
 refine k2 _ _ ?_
 refine qr fun K5 k6 => ?_
 refine s5 ha rfl (fun _ ha => r_load ha rfl Tryz.isAgg22 (cell_of hbk rfl)) (mv rfl) (fun _ ha => r_conv_n_u8w ha j Tryz.runUnderlying3 Tryz.runUnderlying5 rfl) (mv rfl) (fun _ ha => r_conv_n_u8w ha i Tryz.runUnderlying3 Tryz.runUnderlying5 rfl) ?_; intro a ha
 refine sbuildS ha [(0, e8 (UInt8.ofNat j)), (1, e8 (UInt8.ofNat i))] (([UInt8.ofNat j, UInt8.ofNat i] : List UInt8).map e8) rfl Tryz.runUnderlying22 Tryz.sizeOf5 Tryz.zeroValue5 rfl rfl rfl rfl rfl ?_
 intro a w7 b8 ha hg hb8 hge8 hlt8
 have hz8 := Nat.le_trans hB.size hge8
 have hqk_8 := bl hbk hge8
 have hq4_8 := bl hb4 hge8
 replace hB := keepB0 hg hB
 replace hbk := keepO0 hg hbk
 replace hb4 := keepO0 hg hb4
 refine sbuildS ha [(0, v), (1, .slice (some ⟨b8, 0, none⟩) 2 2)] [v, .slice (some ⟨b8, 0, none⟩) 2 2] rfl Tryz.runUnderlying96 Tryz.sizeOf22 Tryz.zeroValue22 rfl rfl rfl (fill2 (Sl.one (hs.below hB)) (Sl.one (Sl.ofBlockM hb8 (by rw [show ([UInt8.ofNat j, UInt8.ofNat i] : List UInt8).length = 2 from rfl]) (by omega)))) rfl ?_
 intro a w9 b10 ha hg hb10 hge10 hlt10
 have hz10 := Nat.le_trans hB.size hge10
 have hqk_10 := bl hbk hge10
 have hq4_10 := bl hb4 hge10
 have hq8_10 := bl hb8 hge10
 replace hB := keepB0 hg hB
 replace hbk := keepO0 hg hbk
 replace hb4 := keepO0 hg hb4
 replace hb8 := keepO0 hg hb8
 refine sc ha (r_call ha [(.slice (some ⟨b10, 0, none⟩) 2 2)] rfl Tryz.call52) rfl rfl rfl (c_join (.slice (some ⟨b10, 0, none⟩) 2 2) ([v, .slice (some ⟨b8, 0, none⟩) 2 2]) ([rho, ([UInt8.ofNat j, UInt8.ofNat i] : List UInt8)]) _ (Sl.ofBlock (D := [v, .slice (some ⟨b8, 0, none⟩) 2 2]) (C := [v, .slice (some ⟨b8, 0, none⟩) 2 2]) hb10 rfl (Nat.le_refl _)) (.cons (hs.below hB) (.cons (Sl.ofBlockM hb8 (by rw [show ([UInt8.ofNat j, UInt8.ofNat i] : List UInt8).length = 2 from rfl]) (by omega)) .nil)) (by simp only [List.flatten_cons, List.flatten_nil, List.append_nil, List.length_append, List.length_cons, List.length_nil]; omega) (show 2 ≤ 1000 by omega)) ?_
 rintro e w11 ⟨u12, rfl, hBc, hs12, hd12⟩
 have hg := grown_call hBc
 have hnb_hs12_bk := nbn hd12 hbk
 have hnb_hs12_b4 := nbn hd12 hb4
 replace hd12 : ∀ j, u12.ownBlock = some j → w0.heap.size ≤ j := fun j hj => Nat.le_trans hB.size (hd12 j hj)
 replace hB := keepB0 hg hB
 replace hbk := keepO0 hg hbk
 replace hb4 := keepO0 hg hb4
 refine ⟨_, rfl, ?_⟩; intro a ha
 refine scp ha (r_call ha [u12] rfl Tryz.call89) rfl rfl rfl (c_uniform u12 (([rho, ([UInt8.ofNat j, UInt8.ofNat i] : List UInt8)]).flatten) _ hs12 (glob_keep hG hB)) ?_; intro w13 hg a ha
 replace hB := keepB0 hg hB
 replace hbk := keepO0 hg hbk
 replace hb4 := keepO0 hg hb4
 refine sstoreW ha rfl rfl (one_ei _) Tryz.sizeOf50 (by rw [List.length_map, uni_len]) hb4 (by rw [List.length_map, List.length_replicate]) ?_
 intro a w14 ha hg hb4'
 replace hb4 := hb4'
 replace hB := keepB1 hg (by omega) hB
 replace hbk := keepO1 hg (by omega) hbk
 refine k6 _ _ ?_
 refine wp_ret ?_
 exact retC _ ha Tryz.results88 rfl hb4 Tryz.underlying50 rfl (by rw [List.length_map, uni_len]; kernel_rfl) ⟨rfl, hB⟩

theorem c_timesM (bk : Nat) (v : Value) (rho : List UInt8) (r : List Int) (w0 : World) (hs : Sl w0 v (rho.map e8)) (hk : rho.length ≤ 50000) (hr : r.length = 768) (hbk : w0.heap[bk]? = some (.cells ([v]).toArray 22 (0, 0))) (hG : Glob w0) (hP : GlobP w0) :
    Calls Tryz.prog 42 #[.func (.func 88) #[] #[.pointer (some ⟨bk, 0, none⟩)], .agg ((r).map ei).toArray] w0 fun e w' => e = .returned (.agg ((tiA (mat rho) r 3).map ei).toArray) ∧ Below w0.heap.size w0 w' := by
 refine enter (args := [_, _]) Tryz.func42 rfl Tryz.ntmps42 rfl ?_
 intro a ha
 have hB := Below.refl w0.heap.size w0
 refine qr fun K1 k2 => ?_
 refine sbox ha rfl rfl ?_
 intro a w3 b4 ha hg hb4 hge4 hlt4
 have hz4 := Nat.le_trans hB.size hge4
 have hqk_4 := bl hbk hge4
 replace hB := keepB0 hg hB
 replace hbk := keepO0 hg hbk
 refine salloc ha zero_52M1 rfl ?_
 intro a w5 b6 ha hg hb6 hge6 hlt6
 have hz6 := Nat.le_trans hB.size hge6
 have hqk_6 := bl hbk hge6
 have hq4_6 := bl hb4 hge6
 replace hB := keepB0 hg hB
 replace hbk := keepO0 hg hbk
 replace hb4 := keepO0 hg hb4
 refine k2 _ _ ?_
 refine qr fun K7 k8 => ?_
 refine salloc ha zero_52M1 rfl ?_
 intro a w9 b10 ha hg hb10 hge10 hlt10
 have hz10 := Nat.le_trans hB.size hge10
 have hqk_10 := bl hbk hge10
 have hq4_10 := bl hb4 hge10
 have hq6_10 := bl hb6 hge10
 replace hB := keepB0 hg hB
 replace hbk := keepO0 hg hbk
 replace hb4 := keepO0 hg hb4
 replace hb6 := keepO0 hg hb6
 refine k8 _ _ ?_
 refine wp_seq_k fun K11 k12 => ?_
 refine qr fun K13 k14 => ?_
 refine s1 ha rfl (mv rfl) ?_; intro a ha
 refine k14 _ _ ?_
 refine wp_block ?_
 refine loopG (fun (i : Nat) a w => (i ≤ 3) ∧ Has 31 [(0, .func (.func 88) #[] #[.pointer (some ⟨bk, 0, none⟩)]), (3, .pointer (some ⟨b4, 0, none⟩)), (4, .pointer (some ⟨b6, 0, none⟩)), (5, .pointer (some ⟨b10, 0, none⟩)), (8, en i)] a ∧ Below w0.heap.size w0 w ∧ w.heap[bk]? = some (.cells ([v]).toArray 22 (0, 0)) ∧ w.heap[b4]? = some (.cells ((r).map ei).toArray 52 (0, 0)) ∧ w.heap[b6]? = some (.cells ((List.replicate 768 (0 : Int)).map ei).toArray 52 (0, 0)) ∧ w.heap[b10]? = some (.cells ((tiA (mat rho) r i).map ei).toArray 52 (0, 0))) (fun i => 3 - i) 0 ⟨(by omega), ha.to [0, 3, 4, 5, 8] rfl, hB, hbk, hb4, hb6, hb10⟩ ?_
 clear ha a hB hbk hb4 hb6 hb10
 intro i a w15 ⟨hki, ha, hB, hbk, hb4, hb6, hb10⟩
 refine qr fun K16 k17 => ?_
 refine s1 ha rfl (fun _ ha => r_lss ha ((i : Nat) : Int) 3 (decide (i < 3)) rfl rfl (decide_eq_decide.2 (by omega))) ?_; intro a ha
 refine k17 _ _ ?_
 refine wp_seq_k fun K18 k19 => ?_
 refine cond_if ha rfl (fun hc20 => ?_) (fun hc20 => ?_)
 ·skip
  replace hc20 := of_decide_eq_true hc20
  refine wp_skip ?_
  refine k19 _ _ ?_
  refine wp_seq_k fun K21 k22 => ?_
  refine wp_block ?_
  refine qr fun K23 k24 => ?_
  refine s2 ha rfl (mv rfl) (av rfl) ?_; intro a ha
  refine k24 _ _ ?_
  refine qr fun K25 k26 => ?_
  refine s1 ha rfl (mv rfl) ?_; intro a ha
  refine k26 _ _ ?_
  refine wp_block ?_
  have hti := tiA_len (mat rho) r i (by omega)
  refine loopG (fun (j : Nat) a w => (j ≤ 3) ∧ Has 31 [(0, .func (.func 88) #[] #[.pointer (some ⟨bk, 0, none⟩)]), (3, .pointer (some ⟨b4, 0, none⟩)), (4, .pointer (some ⟨b6, 0, none⟩)), (5, .pointer (some ⟨b10, 0, none⟩)), (8, en i), (6, en i), (11, en j)] a ∧ Below w0.heap.size w0 w ∧ w.heap[bk]? = some (.cells ([v]).toArray 22 (0, 0)) ∧ w.heap[b4]? = some (.cells ((r).map ei).toArray 52 (0, 0)) ∧ w.heap[b6]? = some (.cells ((List.replicate 768 (0 : Int)).map ei).toArray 52 (0, 0)) ∧ w.heap[b10]? = some (.cells ((tiB (mat rho) r (tiA (mat rho) r i) i j).map ei).toArray 52 (0, 0))) (fun j => 3 - j) 0 ⟨(by omega), ha.to [0, 3, 4, 5, 8, 6, 11] rfl, hB, hbk, hb4, hb6, hb10⟩ ?_
  clear ha a hB hbk hb4 hb6 hb10
  intro j a w27 ⟨hkj, ha, hB, hbk, hb4, hb6, hb10⟩
  refine qr fun K28 k29 => ?_
  refine s1 ha rfl (fun _ ha => r_lss ha ((j : Nat) : Int) 3 (decide (j < 3)) rfl rfl (decide_eq_decide.2 (by omega))) ?_; intro a ha
  refine k29 _ _ ?_
  refine wp_seq_k fun K30 k31 => ?_
  refine cond_if ha rfl (fun hc32 => ?_) (fun hc32 => ?_)
  ·skip
   replace hc32 := of_decide_eq_true hc32
   refine wp_skip ?_
   refine k31 _ _ ?_
   refine wp_seq_k fun K33 k34 => ?_
   refine wp_block ?_
   refine qr fun K35 k36 => ?_
   refine s2 ha rfl (mv rfl) (av rfl) ?_; intro a ha
   refine k36 _ _ ?_
   refine regionD (S := fun w => Below w0.heap.size w0 w ∧ w.heap[bk]? = some (.cells ([v]).toArray 22 (0, 0)) ∧ w.heap[b4]? = some (.cells ((r).map ei).toArray 52 (0, 0)) ∧ w.heap[b6]? = some (.cells ((List.replicate 768 (0 : Int)).map ei).toArray 52 (0, 0)) ∧ w.heap[b10]? = some (.cells ((tiB (mat rho) r (tiA (mat rho) r i) i j).map ei).toArray 52 (0, 0)) ∧ True) [14] [0, 1, 2, 3, 4, 5, 6, 8, 9, 10, 13] [0, 1, 2, 3, 4, 5, 6, 8, 9, 10, 7, 11, 12, 13, 14] mixed (by kernel_rfl) (fun w hg => ⟨keepB0 hg hB, keepO0 hg hbk, keepO0 hg hb4, keepO0 hg hb6, keepO0 hg hb10, trivial⟩) ?_
   intro w37 hg
   replace hB := keepB0 hg hB
   replace hbk := keepO0 hg hbk
   replace hb4 := keepO0 hg hb4
   replace hb6 := keepO0 hg hb6
   replace hb10 := keepO0 hg hb10
   refine c6 ha rfl (cmv rfl) (cmv rfl) (fun w _ _ ha => r_indexArr (i := i) ha (i * 256) Tryz.runUnderlying52 Tryz.sizeOf50 rfl rfl (by omega) (by omega)) (fun w ⟨_, _, _, _, hb10, _⟩ _ ha => r_loadR ha rfl Tryz.isAgg50 Tryz.sizeOf50 (C := (rg (tiB (mat rho) r (tiA (mat rho) r i) i j) i).map ei) (by rw [List.length_map, rg_len _ _ (by rw [tiB_len _ _ _ hti _ (by omega)]; omega)]) (cells_of (i * 256) hb10 (rg_map _ _ (by rw [tiB_len _ _ _ hti _ (by omega)]; omega)))) (cmv rfl) (cmv rfl) ?_; intro a ha
   refine c4 ha rfl (cmv rfl) (cmv rfl) (fun w _ _ ha => r_indexArr (i := j) ha (j * 256) Tryz.runUnderlying52 Tryz.sizeOf50 rfl rfl (by omega) (by omega)) (fun w ⟨_, _, hb4, _⟩ _ ha => r_loadR ha rfl Tryz.isAgg50 Tryz.sizeOf50 (C := (rg r j).map ei) (by rw [List.length_map, rg_len _ _ (by rw [hr]; omega)]) (cells_of (j * 256) hb4 (rg_map _ _ (by rw [hr]; omega)))) ?_; intro a ha
   refine cc ha rfl rfl (r_callV ha (cap := #[.pointer (some ⟨bk, 0, none⟩)]) [en i, en j] rfl rfl Tryz.call88) rfl rfl rfl (c_matrixF i j bk v rho _ (by omega) (hs.below hB) (by omega) hbk (glob_keep hG hB)) ?_
   rintro e w38 ⟨rfl, hBc⟩
   have hg := grown_call hBc
   replace hB := keepB0 hg hB
   replace hbk := keepO0 hg hbk
   replace hb4 := keepO0 hg hb4
   replace hb6 := keepO0 hg hb6
   replace hb10 := keepO0 hg hb10
   refine ⟨fun _ => ⟨hB, hbk, hb4, hb6, hb10, trivial⟩, _, rfl, ?_⟩; intro a ha
   refine cc ha rfl rfl (r_call ha [.agg (((mat rho i j)).map ei).toArray, .agg (((rg r j)).map ei).toArray] rfl Tryz.call91) rfl rfl rfl (c_times (mat rho i j) (rg r j) _ (by rw [mat_len]) (by rw [rg_len _ _ (by rw [hr]; omega)]) (globP_keep hP hB)) ?_
   rintro e w39 ⟨rfl, hBc⟩
   have hg := grown_call hBc
   replace hB := keepB0 hg hB
   replace hbk := keepO0 hg hbk
   replace hb4 := keepO0 hg hb4
   replace hb6 := keepO0 hg hb6
   replace hb10 := keepO0 hg hb10
   refine ⟨fun _ => ⟨hB, hbk, hb4, hb6, hb10, trivial⟩, _, rfl, ?_⟩; intro a ha
   refine cc ha rfl rfl (r_call ha [.agg (((rg (tiB (mat rho) r (tiA (mat rho) r i) i j) i)).map ei).toArray, .agg (((tms (mat rho i j) (rg r j))).map ei).toArray] rfl Tryz.call46) rfl rfl rfl (c_plus (rg (tiB (mat rho) r (tiA (mat rho) r i) i j) i) (tms (mat rho i j) (rg r j)) _ (by rw [rg_len _ _ (by rw [tiB_len _ _ _ hti _ (by omega)]; omega)]) (by rw [(tms_red _ _).len])) ?_
   rintro e w40 ⟨rfl, hBc⟩
   have hg := grown_call hBc
   replace hB := keepB0 hg hB
   replace hbk := keepO0 hg hbk
   replace hb4 := keepO0 hg hb4
   replace hb6 := keepO0 hg hb6
   replace hb10 := keepO0 hg hb10
   refine ⟨fun _ => ⟨hB, hbk, hb4, hb6, hb10, trivial⟩, _, rfl, ?_⟩; intro a ha
   refine c1 ha rfl (fun w _ _ ha => r_indexArr (i := i) ha (i * 256) Tryz.runUnderlying52 Tryz.sizeOf50 rfl rfl (by omega) (by omega)) ?_; intro a ha
   refine cstoreR ha rfl rfl rfl rfl (one_ei _) Tryz.sizeOf50 (by rw [List.length_map, (pl_red _ _ (by rw [rg_len _ _ (by rw [tiB_len _ _ _ hti _ (by omega)]; omega)])).len]) hb10 (by simp only [List.length_map]; rw [(pl_red _ _ (by rw [rg_len _ _ (by rw [tiB_len _ _ _ hti _ (by omega)]; omega)])).len, tiB_len _ _ _ hti _ (by omega)]; omega) rfl ?_
   intro a w41 ha hg hb10'
   rw [rs_map _ _ _ (by rw [(pl_red _ _ (by rw [rg_len _ _ (by rw [tiB_len _ _ _ hti _ (by omega)]; omega)])).len])] at hb10'
   replace hb10 := hb10'
   replace hB := keepB1 hg (by omega) hB
   replace hbk := keepO1 hg (by omega) hbk
   replace hb4 := keepO1 hg (by omega) hb4
   replace hb6 := keepO1 hg (by omega) hb6
   refine cfin (k34 _ _ ?_)
   refine region ?_
   refine s2 ha rfl (fun _ ha => rn_add ha j 1 rfl rfl (by omega)) (mv rfl) ?_; intro a ha
   exact ⟨j + 1, by omega, (by omega), ha.to [0, 3, 4, 5, 8, 6, 11] rfl, hB, hbk, hb4, hb6, hb10⟩
  ·skip
   replace hc32 := of_decide_eq_false hc32
   refine wp_exit ?_
   obtain rfl : j = 3 := by omega
   refine k22 _ _ ?_
   refine region ?_
   refine s2 ha rfl (fun _ ha => rn_add ha i 1 rfl rfl (by omega)) (mv rfl) ?_; intro a ha
   exact ⟨i + 1, by omega, (by omega), ha.to [0, 3, 4, 5, 8] rfl, hB, hbk, hb4, hb6, hb10⟩
 ·skip
  replace hc20 := of_decide_eq_false hc20
  refine wp_exit ?_
  obtain rfl : i = 3 := by omega
  refine k12 _ _ ?_
  refine qr fun K42 k43 => ?_
  refine s1 ha rfl (fun _ ha => r_loadR ha rfl Tryz.isAgg52 Tryz.sizeOf52 (C := (tiA (mat rho) r 3).map ei) (by rw [List.length_map, tiA_len _ _ _ (by omega)]) (cells_all hb10)) ?_; intro a ha
  refine sstoreW ha rfl rfl (one_ei _) Tryz.sizeOf52 (by rw [List.length_map, tiA_len _ _ _ (by omega)]) hb6 (by rw [List.length_map, List.length_replicate]) ?_
  intro a w44 ha hg hb6'
  replace hb6 := hb6'
  replace hB := keepB1 hg (by omega) hB
  replace hbk := keepO1 hg (by omega) hbk
  replace hb10 := keepO1 hg (by omega) hb10
  refine k43 _ _ ?_
  refine wp_ret ?_
  exact retC _ ha Tryz.results42 rfl hb6 Tryz.underlying52 rfl (by rw [List.length_map, tiA_len _ _ _ (by omega)]; kernel_rfl) ⟨rfl, hB⟩

theorem c_plusR (r s : List Int) (w0 : World) (hr : r.length = 768) (hs2 : s.length = 768) (hG : Glob w0) (hP : GlobP w0) :
    Calls Tryz.prog 44 #[.agg ((r).map ei).toArray, .agg ((s).map ei).toArray] w0 fun e w' => e = .returned (.agg ((plR r s 3).map ei).toArray) ∧ Below w0.heap.size w0 w' := by
 refine enter (args := [_, _]) Tryz.func44 rfl Tryz.ntmps44 rfl ?_
 intro a ha
 have hB := Below.refl w0.heap.size w0
 refine qr fun K1 k2 => ?_
 refine sbox ha rfl rfl ?_
 intro a w3 b4 ha hg hb4 hge4 hlt4
 have hz4 := Nat.le_trans hB.size hge4
 replace hB := keepB0 hg hB
 refine sbox ha rfl rfl ?_
 intro a w5 b6 ha hg hb6 hge6 hlt6
 have hz6 := Nat.le_trans hB.size hge6
 have hq4_6 := bl hb4 hge6
 replace hB := keepB0 hg hB
 replace hb4 := keepO0 hg hb4
 refine salloc ha zero_52M1 rfl ?_
 intro a w7 b8 ha hg hb8 hge8 hlt8
 have hz8 := Nat.le_trans hB.size hge8
 have hq4_8 := bl hb4 hge8
 have hq6_8 := bl hb6 hge8
 replace hB := keepB0 hg hB
 replace hb4 := keepO0 hg hb4
 replace hb6 := keepO0 hg hb6
 refine k2 _ _ ?_
 refine wp_seq_k fun K9 k10 => ?_
 refine qr fun K11 k12 => ?_
 refine s1 ha rfl (mv rfl) ?_; intro a ha
 refine k12 _ _ ?_
 refine wp_block ?_
 refine loopG (fun (i : Nat) a w => (i ≤ 3) ∧ Has 20 [(2, .pointer (some ⟨b4, 0, none⟩)), (3, .pointer (some ⟨b6, 0, none⟩)), (4, .pointer (some ⟨b8, 0, none⟩)), (6, en i)] a ∧ Below w0.heap.size w0 w ∧ w.heap[b4]? = some (.cells ((plR r s i).map ei).toArray 52 (0, 0)) ∧ w.heap[b6]? = some (.cells ((s).map ei).toArray 52 (0, 0)) ∧ w.heap[b8]? = some (.cells ((List.replicate 768 (0 : Int)).map ei).toArray 52 (0, 0))) (fun i => 3 - i) 0 ⟨(by omega), ha.to [2, 3, 4, 6] rfl, hB, hb4, hb6, hb8⟩ ?_
 clear ha a hB hb4 hb6 hb8
 intro i a w13 ⟨hki, ha, hB, hb4, hb6, hb8⟩
 refine qr fun K14 k15 => ?_
 refine s1 ha rfl (fun _ ha => r_lss ha ((i : Nat) : Int) 3 (decide (i < 3)) rfl rfl (decide_eq_decide.2 (by omega))) ?_; intro a ha
 refine k15 _ _ ?_
 refine wp_seq_k fun K16 k17 => ?_
 refine cond_if ha rfl (fun hc18 => ?_) (fun hc18 => ?_)
 ·skip
  replace hc18 := of_decide_eq_true hc18
  refine wp_skip ?_
  refine k17 _ _ ?_
  refine wp_seq_k fun K19 k20 => ?_
  refine wp_block ?_
  refine qr fun K21 k22 => ?_
  refine s2 ha rfl (mv rfl) (av rfl) ?_; intro a ha
  refine k22 _ _ ?_
  refine regionD (S := fun w => Below w0.heap.size w0 w ∧ w.heap[b4]? = some (.cells ((plR r s i).map ei).toArray 52 (0, 0)) ∧ w.heap[b6]? = some (.cells ((s).map ei).toArray 52 (0, 0)) ∧ w.heap[b8]? = some (.cells ((List.replicate 768 (0 : Int)).map ei).toArray 52 (0, 0)) ∧ True) [9] [0, 1, 2, 3, 4, 5, 6, 8] [0, 1, 2, 3, 4, 5, 6, 7, 8, 9] mixed (by kernel_rfl) (fun w hg => ⟨keepB0 hg hB, keepO0 hg hb4, keepO0 hg hb6, keepO0 hg hb8, trivial⟩) ?_
  intro w23 hg
  replace hB := keepB0 hg hB
  replace hb4 := keepO0 hg hb4
  replace hb6 := keepO0 hg hb6
  replace hb8 := keepO0 hg hb8
  refine c6 ha rfl (cmv rfl) (cmv rfl) (fun w _ _ ha => r_indexArr (i := i) ha (i * 256) Tryz.runUnderlying52 Tryz.sizeOf50 rfl rfl (by omega) (by omega)) (fun w ⟨_, hb4, _⟩ _ ha => r_loadR ha rfl Tryz.isAgg50 Tryz.sizeOf50 (C := (rg (plR r s i) i).map ei) (by rw [List.length_map, rg_len _ _ (by rw [plR_len _ _ (by rw [hr]) _ (by omega)]; omega)]) (cells_of (i * 256) hb4 (rg_map _ _ (by rw [plR_len _ _ (by rw [hr]) _ (by omega)]; omega)))) (cmv rfl) (fun w _ _ ha => r_indexArr (i := i) ha (i * 256) Tryz.runUnderlying52 Tryz.sizeOf50 rfl rfl (by omega) (by omega)) ?_; intro a ha
  refine c1 ha rfl (fun w ⟨_, _, hb6, _⟩ _ ha => r_loadR ha rfl Tryz.isAgg50 Tryz.sizeOf50 (C := (rg s i).map ei) (by rw [List.length_map, rg_len _ _ (by rw [hs2]; omega)]) (cells_of (i * 256) hb6 (rg_map _ _ (by rw [hs2]; omega)))) ?_; intro a ha
  refine cc ha rfl rfl (r_call ha [.agg (((rg (plR r s i) i)).map ei).toArray, .agg (((rg s i)).map ei).toArray] rfl Tryz.call46) rfl rfl rfl (c_plus (rg (plR r s i) i) (rg s i) _ (by rw [rg_len _ _ (by rw [plR_len _ _ (by rw [hr]) _ (by omega)]; omega)]) (by rw [rg_len _ _ (by rw [hs2]; omega)])) ?_
  rintro e w24 ⟨rfl, hBc⟩
  have hg := grown_call hBc
  replace hB := keepB0 hg hB
  replace hb4 := keepO0 hg hb4
  replace hb6 := keepO0 hg hb6
  replace hb8 := keepO0 hg hb8
  refine ⟨fun _ => ⟨hB, hb4, hb6, hb8, trivial⟩, _, rfl, ?_⟩; intro a ha
  refine c1 ha rfl (fun w _ _ ha => r_indexArr (i := i) ha (i * 256) Tryz.runUnderlying52 Tryz.sizeOf50 rfl rfl (by omega) (by omega)) ?_; intro a ha
  refine cstoreR ha rfl rfl rfl rfl (one_ei _) Tryz.sizeOf50 (by rw [List.length_map, (pl_red _ _ (by rw [rg_len _ _ (by rw [plR_len _ _ (by rw [hr]) _ (by omega)]; omega)])).len]) hb4 (by simp only [List.length_map]; rw [(pl_red _ _ (by rw [rg_len _ _ (by rw [plR_len _ _ (by rw [hr]) _ (by omega)]; omega)])).len, plR_len _ _ (by rw [hr]) _ (by omega)]; omega) rfl ?_
  intro a w25 ha hg hb4'
  rw [rs_map _ _ _ (by rw [(pl_red _ _ (by rw [rg_len _ _ (by rw [plR_len _ _ (by rw [hr]) _ (by omega)]; omega)])).len])] at hb4'
  replace hb4 := hb4'
  replace hB := keepB1 hg (by omega) hB
  replace hb6 := keepO1 hg (by omega) hb6
  replace hb8 := keepO1 hg (by omega) hb8
  refine cfin (k20 _ _ ?_)
  refine region ?_
  refine s2 ha rfl (fun _ ha => rn_add ha i 1 rfl rfl (by omega)) (mv rfl) ?_; intro a ha
  exact ⟨i + 1, by omega, (by omega), ha.to [2, 3, 4, 6] rfl, hB, hb4, hb6, hb8⟩
 ·skip
  replace hc18 := of_decide_eq_false hc18
  refine wp_exit ?_
  obtain rfl : i = 3 := by omega
  refine k10 _ _ ?_
  refine qr fun K26 k27 => ?_
  refine s1 ha rfl (fun _ ha => r_loadR ha rfl Tryz.isAgg52 Tryz.sizeOf52 (C := (plR r s 3).map ei) (by rw [List.length_map, plR_len _ _ (by rw [hr]) _ (by omega)]) (cells_all hb4)) ?_; intro a ha
  refine sstoreW ha rfl rfl (one_ei _) Tryz.sizeOf52 (by rw [List.length_map, plR_len _ _ (by rw [hr]) _ (by omega)]) hb8 (by rw [List.length_map, List.length_replicate]) ?_
  intro a w28 ha hg hb8'
  replace hb8 := hb8'
  replace hB := keepB1 hg (by omega) hB
  replace hb4 := keepO1 hg (by omega) hb4
  refine k27 _ _ ?_
  refine wp_ret ?_
  exact retC _ ha Tryz.results44 rfl hb8 Tryz.underlying52 rfl (by rw [List.length_map, plR_len _ _ (by rw [hr]) _ (by omega)]; kernel_rfl) ⟨rfl, hB⟩

theorem c_packR (r : List Int) (d : Nat) (w0 : World) (hr : r.length = 768) (hd : 1 ≤ d ∧ d ≤ 12) :
    Calls Tryz.prog 53 #[.agg ((r).map ei).toArray, en d] w0 fun e w' => ∃ u0 : Value, e = .returned (u0) ∧ Below w0.heap.size w0 w' ∧ Sl w' u0 ((pkR d r 3).map e8) ∧ (∀ j, u0.ownBlock = some j → w0.heap.size ≤ j) := by
 refine enter (args := [_, _]) Tryz.func53 rfl Tryz.ntmps53 rfl ?_
 intro a ha
 have hB := Below.refl w0.heap.size w0
 refine qr fun K1 k2 => ?_
 refine sbox ha rfl rfl ?_
 intro a w3 b4 ha hg hb4 hge4 hlt4
 have hz4 := Nat.le_trans hB.size hge4
 replace hB := keepB0 hg hB
 refine s1 ha rfl (av rfl) ?_; intro a ha
 refine k2 _ _ ?_
 refine qr fun K5 k6 => ?_
 refine s1 ha rfl (av rfl) ?_; intro a ha
 refine k6 _ _ ?_
 refine wp_seq_k fun K7 k8 => ?_
 refine qr fun K9 k10 => ?_
 refine s2 ha rfl (fun _ ha => r_loadR ha rfl Tryz.isAgg52 Tryz.sizeOf52 (C := (r).map ei) (by rw [List.length_map, hr]) (cells_all hb4)) (mv rfl) ?_; intro a ha
 refine k10 _ _ ?_
 refine wp_block ?_
 refine loopG (fun (i : Nat) a w => ∃ vo : Value, (i ≤ 3) ∧ Has 19 [(1, en d), (8, .agg ((r).map ei).toArray), (9, en i), (5, vo)] a ∧ Below w0.heap.size w0 w ∧ w.ownsRow w0.heap.size 5 1 vo (pkR d r i).length ((pkR d r i).map e8)) (fun i => 3 - i) 0 ⟨.slice none 0 0, (by omega), ha.to [1, 8, 9, 5] rfl, hB, (own_castl (l := ([] : List UInt8)) (World.ownsRow_nil _ _ _ _) rfl)⟩ ?_
 clear ha a hB
 intro i a w11 ⟨vo, hki, ha, hB, hovo⟩
 have hpl := pkR_len d r i
 have hdi := Nat.mul_le_mul (Nat.mul_le_mul (Nat.le_refl 32) hd.2) (show i ≤ 3 by omega)
 refine qr fun K12 k13 => ?_
 refine s1 ha rfl (fun _ ha => r_lss ha ((i : Nat) : Int) 3 (decide (i < 3)) rfl rfl (decide_eq_decide.2 (by omega))) ?_; intro a ha
 refine k13 _ _ ?_
 refine wp_seq_k fun K14 k15 => ?_
 refine cond_if ha rfl (fun hc16 => ?_) (fun hc16 => ?_)
 ·skip
  replace hc16 := of_decide_eq_true hc16
  refine wp_skip ?_
  refine k15 _ _ ?_
  refine wp_seq_k fun K17 k18 => ?_
  refine wp_block ?_
  refine qr fun K19 k20 => ?_
  refine s1 ha rfl (fun _ ha => r_indexP (C := (r).map ei) (D := (rg r i).map ei) (i := i) ha Tryz.runUnderlying52 Tryz.sizeOf50 Tryz.isAgg50 rfl rfl (by omega) (by rw [List.length_map, rg_len _ _ (by rw [hr]; omega)]) (rg_map _ _ (by rw [hr]; omega))) ?_; intro a ha
  refine salloc ha zero_50M1 rfl ?_
  intro a w21 b22 ha hg hb22 hge22 hlt22
  have hz22 := Nat.le_trans hB.size hge22
  have hne_hovo_b22 : ∀ j, Value.ownBlock vo = some j → j ≠ b22 := fun j hj => by have := (hovo.lt j hj).2; omega
  replace hB := keepB0 hg hB
  replace hovo := keepW0 hg hovo
  refine sstoreW ha rfl rfl (one_ei _) Tryz.sizeOf50 (by rw [List.length_map, rg_len _ _ (by rw [hr]; omega)]) hb22 (by rw [List.length_map, List.length_replicate]) ?_
  intro a w23 ha hg hb22'
  replace hb22 := hb22'
  replace hB := keepB1 hg (by omega) hB
  replace hovo := keepW1 hg (ne_of_ap hne_hovo_b22) hovo
  refine k20 _ _ ?_
  refine region ?_
  refine s3 ha rfl (mv rfl) (mv rfl) (fun _ ha => r_loadR ha rfl Tryz.isAgg50 Tryz.sizeOf50 (C := (rg r i).map ei) (by rw [List.length_map, rg_len _ _ (by rw [hr]; omega)]) (cells_all hb22)) ?_; intro a ha
  refine sc ha (r_call ha [en d, .agg (((rg r i)).map ei).toArray] rfl Tryz.call54) rfl rfl rfl (c_pack1 d (rg r i) _ (by omega) (by rw [rg_len _ _ (by rw [hr]; omega)])) ?_
  rintro e w24 ⟨u25, rfl, hBc, hs25, hd25⟩
  have hg := grown_call hBc
  have hds_hs25_hovo := nds hd25 (fun j hj => (hovo.lt j hj).2)
  replace hd25 : ∀ j, u25.ownBlock = some j → w0.heap.size ≤ j := fun j hj => Nat.le_trans hB.size (hd25 j hj)
  replace hB := keepB0 hg hB
  replace hovo := keepW0 hg hovo
  refine ⟨_, rfl, ?_⟩; intro a ha
  refine sapp (C := ((pkR d r i)).map e8) (D := (paA d (rg r i) 256).map e8) ha rfl rfl Tryz.underlying22 rfl rfl rfl rfl hovo hs25 (one_e8 _) (by simp only [List.length_map, paA_len]; show _ * 1 ≤ _; omega) (by simp only [List.length_map, paA_len]; omega) hB.size rfl ?_
  intro a w27 v26 ha hg ho26 hnl26 hpl26
  rw [← List.map_append, List.length_map] at ho26
  have hds_ho26_hs25 : ∀ j, v26.ownBlock = some j → u25.ownBlock ≠ some j := fun j h1 h2 => (hpl26 j h1).elim (fun h => (fun j h1 h2 => hds_hs25_hovo j h2 h1) j h h2) (fun h => by have h4 := (fun j hj => hs25.lt j hj) j h2; omega)
  replace hB := keepBR hg (own_row hovo) hB
  replace hs25 := keepSR hg (fun j h1 h2 => hds_hs25_hovo j h2 h1) hs25
  refine s1 ha rfl (av rfl) ?_; intro a ha
  refine k18 _ _ ?_
  refine region ?_
  refine s2 ha rfl (fun _ ha => rn_add ha i 1 rfl rfl (by omega)) (mv rfl) ?_; intro a ha
  exact ⟨i + 1, by omega, v26, (by omega), ha.to [1, 8, 9, 5] rfl, hB, (own_castl (own_len ho26) rfl)⟩
 ·skip
  replace hc16 := of_decide_eq_false hc16
  refine wp_exit ?_
  obtain rfl : i = 3 := by omega
  refine k8 _ _ ?_
  refine qr fun K28 k29 => ?_
  refine s2 ha rfl (mv rfl) (av rfl) ?_; intro a ha
  refine k29 _ _ ?_
  refine wp_ret ?_
  exact ret1 ha Tryz.results53 rfl ⟨_, rfl, hB, (Sl.castM (l := pkR d r 3) (Sl.ofOwns hovo) rfl), (own_row hovo)⟩

theorem c_turn (bk : Nat) (v : Value) (rho : List UInt8) (w0 : World) (hs : Sl w0 v (rho.map e8)) (hbk : w0.heap[bk]? = some (.cells ([v]).toArray 22 (0, 0))) :
    Calls Tryz.prog 41 #[.func (.func 88) #[] #[.pointer (some ⟨bk, 0, none⟩)]] w0 fun e w' => ∃ bkn, e = .returned (.func (.func 90) #[] #[.pointer (some ⟨bkn, 0, none⟩)]) ∧ Below w0.heap.size w0 w' ∧ w'.heap[bkn]? = some (.cells (([.func (.func 88) #[] #[.pointer (some ⟨bk, 0, none⟩)]] : List Value)).toArray 58 (0, 0)) ∧ w0.heap.size ≤ bkn := by
 refine enter (args := [_]) Tryz.func41 rfl Tryz.ntmps41 rfl ?_
 intro a ha
 have hB := Below.refl w0.heap.size w0
 refine qr fun K1 k2 => ?_
 refine sbox1 ha rfl rfl rfl ?_
 intro a w3 b4 ha hg hb4 hge4 hlt4
 have hz4 := Nat.le_trans hB.size hge4
 have hqk_4 := bl hbk hge4
 replace hB := keepB0 hg hB
 replace hbk := keepO0 hg hbk
 refine s1 ha rfl (av rfl) ?_; intro a ha
 refine k2 _ _ ?_
 refine qr fun K5 k6 => ?_
 refine s2 ha rfl (fun _ ha => r_makeFunc ha [.tmp 1] [.pointer (some ⟨b4, 0, none⟩)] rfl) (av rfl) ?_; intro a ha
 refine k6 _ _ ?_
 refine wp_ret ?_
 exact ret1 ha Tryz.results41 rfl ⟨_, rfl, hB, hb4, hz4⟩
end Go.Proofs.YtaignhikdfpbbaaGreatDoor
