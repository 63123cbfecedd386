/- The document's sponge is the program's. -/
import Derived.Test.YtaignhikdfpbbaaDoorSr
namespace Go.Rx
set_option maxHeartbeats 400000
theorem rby_eq (p : List UInt64) : rby p = tkA p 25 := rbA_eq p 25
theorem getD_map_oob {α : Type} (l : List α) (i : Nat) (d : α) (h : l.length ≤ i) : l.getD i d = d := by simp [List.getD, List.getElem?_eq_none h]
theorem tkA_get (p : List UInt64) : ∀ (k i : Nat), i < 8 * k → (tkA p k).getD i 0 = byt (p.getD (i / 8) 0) (i % 8)
  | 0, i, h => by omega
  | k + 1, i, h => by
    rw [tkA, List.getD_eq_getElem?_getD]
    have hl := tkA_len p k
    rcases Nat.lt_or_ge i (8 * k) with h1 | h1
    · rw [List.getElem?_append_left (by omega), ← List.getD_eq_getElem?_getD]; exact tkA_get p k i h1
    · rw [List.getElem?_append_right (by omega), hl, ← List.getD_eq_getElem?_getD, st8_get _ _ (by omega)]
      congr 1
      · congr 1; omega
      · omega
/-- A word's bits by its bytes. -/
theorem byt_bit (x : UInt64) (k j : Nat) (hk : k < 8) (hj : j < 8) : (byt x k).toNat.testBit j = x.toNat.testBit (8 * k + j) := by
  rw [byt_toNat x k hk, show (256 : Nat) = 2 ^ 8 from rfl, ← Nat.pow_mul, Nat.testBit_mod_two_pow, Nat.testBit_div_two_pow]
  simp [hj, Nat.add_comm]
theorem word_ext (x y : UInt64) (h : ∀ k, k < 8 → byt x k = byt y k) : x = y := by
  apply UInt64.toNat_inj.1
  apply Nat.eq_of_testBit_eq
  intro i
  rcases Nat.lt_or_ge i 64 with hi | hi
  · have e := congrArg (fun b : UInt8 => b.toNat.testBit (i % 8)) (h (i / 8) (by omega))
    rw [byt_bit x (i / 8) (i % 8) (by omega) (by omega), byt_bit y (i / 8) (i % 8) (by omega) (by omega), show 8 * (i / 8) + i % 8 = i by omega] at e
    exact e
  · have p2 : (2 : Nat) ^ 64 ≤ 2 ^ i := Nat.pow_le_pow_right (by omega) hi
    have hx := x.toNat_lt; have hy := y.toNat_lt
    rw [Nat.testBit_lt_two_pow (by omega), Nat.testBit_lt_two_pow (by omega)]
theorem byt_xor (x y : UInt64) (k : Nat) (hk : k < 8) : byt (x ^^^ y) k = byt x k ^^^ byt y k := by
  apply UInt8.toNat_inj.1
  apply Nat.eq_of_testBit_eq
  intro j
  rcases Nat.lt_or_ge j 8 with hj | hj
  · rw [byt_bit _ k j hk hj, UInt64.toNat_xor, Nat.testBit_xor, UInt8.toNat_xor, Nat.testBit_xor, byt_bit _ k j hk hj, byt_bit _ k j hk hj]
  · have p2 : (2 : Nat) ^ 8 ≤ 2 ^ j := Nat.pow_le_pow_right (by omega) hj
    have h1 := (byt (x ^^^ y) k).toNat_lt; have h2 := (byt x k ^^^ byt y k).toNat_lt
    rw [Nat.testBit_lt_two_pow (by omega), Nat.testBit_lt_two_pow (by omega)]
/-- A number by its bytes, the lowest first. -/
def ldN : List UInt8 → Nat
  | [] => 0
  | c :: r => c.toNat + 256 * ldN r
theorem ldN_lt : ∀ l : List UInt8, ldN l < 256 ^ l.length
  | [] => by simp [ldN]
  | c :: r => by
    have h1 := c.toNat_lt; have h2 := ldN_lt r
    rw [ldN, List.length_cons, Nat.pow_succ]; omega
theorem pow_le8 (n : Nat) (h : n ≤ 8) : 256 ^ n ≤ 18446744073709551616 := by
  have := Nat.pow_le_pow_right (n := 256) (by omega) h
  simpa using this
theorem ldR_nat : ∀ l : List UInt8, l.length ≤ 8 → (ldR l).toNat = ldN l
  | [], _ => rfl
  | c :: r, h => by
    rw [List.length_cons] at h
    have h1 := c.toNat_lt; have h2 := ldN_lt r; have h3 := pow_le8 (r.length + 1) h
    rw [Nat.pow_succ] at h3
    rw [ldR, ldN, UInt64.toNat_add, UInt64.toNat_mul, ldR_nat r (by omega)]
    show (ldN r * 256 % 18446744073709551616 + c.toUInt64.toNat) % 18446744073709551616 = _
    rw [UInt8.toNat_toUInt64]
    omega
theorem ldN_app : ∀ (l : List UInt8) (c : UInt8), ldN (l ++ [c]) = ldN l + 256 ^ l.length * c.toNat
  | [], c => by simp [ldN]
  | d :: r, c => by rw [List.cons_append, ldN, ldN_app r c, ldN, List.length_cons, Nat.pow_succ, Nat.mul_add, ← Nat.mul_assoc, Nat.mul_comm 256 (256 ^ r.length)]; omega
theorem ldA_nat (b : List UInt8) : ∀ k, k ≤ b.length → k ≤ 8 → (ldA b k).toNat = ldN (b.take k)
  | 0, _, _ => by simp [ldA, ldN]
  | k + 1, h, h8 => by
    have hl : (b.take k).length = k := by rw [List.length_take]; omega
    have h1 := ldN_lt (b.take k); rw [hl] at h1
    have hc := (b.getD k 0).toNat_lt
    have e : b.take (k + 1) = b.take k ++ [b.getD k 0] := by rw [List.take_succ_eq_append_getElem (show k < b.length by omega)]; simp [List.getD, List.getElem?_eq_getElem (show k < b.length by omega)]
    rw [e, ldN_app, hl, ldA, UInt64.toNat_or, ldA_nat b k (by omega) (by omega), UInt64.toNat_shiftLeft, UInt8.toNat_toUInt64]
    have e1 : (UInt64.ofNat (8 * k)).toNat % 64 = 8 * k := by rw [UInt64.toNat_ofNat']; omega
    have e2 : (256 : Nat) ^ k = 2 ^ (8 * k) := by rw [show (256 : Nat) = 2 ^ 8 from rfl, ← Nat.pow_mul]
    rw [e1, Nat.shiftLeft_eq, ← e2]
    have h3 := pow_le8 (k + 1) h8
    rw [Nat.pow_succ] at h3
    have h4 : (b.getD k 0).toNat * 256 ^ k < 18446744073709551616 := Nat.lt_of_lt_of_le (Nat.mul_lt_mul_of_lt_of_le hc (Nat.le_refl _) (Nat.pos_of_ne_zero (by simp))) (by rw [Nat.mul_comm]; exact h3)
    show ldN (b.take k) ||| (b.getD k 0).toNat * 256 ^ k % 18446744073709551616 = _
    rw [Nat.mod_eq_of_lt h4, e2, Nat.mul_comm _ (2 ^ (8 * k)), Nat.or_comm, ← Nat.two_pow_add_eq_or_of_lt (by rw [← e2]; exact h1)]
    omega
theorem ldN_byte : ∀ (l : List UInt8) (i : Nat), ldN l / 256 ^ i % 256 = (l.getD i 0).toNat
  | [], i => by simp [ldN]
  | c :: r, 0 => by have := c.toNat_lt; simp [ldN]
  | c :: r, i + 1 => by
    have := c.toNat_lt
    rw [ldN, Nat.pow_succ, Nat.mul_comm (256 ^ i) 256, ← Nat.div_div_eq_div_mul, show (c.toNat + 256 * ldN r) / 256 = ldN r by omega, ldN_byte r i]
    simp
theorem byt_ld8 (c : List UInt8) (h : c.length ≤ 8) (i : Nat) (hi : i < 8) : byt (ld8 c) i = c.getD i 0 := by
  apply UInt8.toNat_inj.1
  rw [byt_toNat _ i hi, ld8, show min c.length 8 = c.length by omega, ldA_nat c _ (Nat.le_refl _) h, List.take_length, ldN_byte]
theorem byt_ldR (c : List UInt8) (h : c.length ≤ 8) (i : Nat) (hi : i < 8) : byt (ldR c) i = c.getD i 0 := by
  apply UInt8.toNat_inj.1
  rw [byt_toNat _ i hi, ldR_nat c h, ldN_byte]

theorem rsx_get (p : List UInt64) (q : List UInt8) (i : Nat) : ∀ (k j : Nat), k ≤ 200 → (rsx p q i k).getD j 0 = if j < k then (rby p).getD j 0 ^^^ q.getD (i + j) 0 else (rby p).getD j 0
  | 0, j, _ => by rw [rsx, if_neg (by omega)]
  | k + 1, j, hk => by
    have ih := rsx_get p q i k
    rw [rsx, List.getD_eq_getElem?_getD, List.getElem?_set]
    by_cases e : k = j
    · subst e
      rw [if_pos rfl, if_pos (by rw [rsx_len]; omega), if_pos (by omega), ih k (by omega), if_neg (by omega)]; rfl
    · rw [if_neg e, ← List.getD_eq_getElem?_getD, ih j (by omega)]
      by_cases h : j < k
      · rw [if_pos h, if_pos (by omega)]
      · rw [if_neg h, if_neg (by omega)]
theorem rstA_get (b : List UInt8) : ∀ (k j : Nat), j < k → (rstA b k).getD j 0 = ldR ((b.drop (8 * j)).take 8)
  | 0, j, h => by omega
  | k + 1, j, h => by
    rw [rstA, List.getD_eq_getElem?_getD]
    have hl := rstA_len b k
    rcases Nat.lt_or_ge j k with h1 | h1
    · rw [List.getElem?_append_left (by omega), ← List.getD_eq_getElem?_getD]; exact rstA_get b k j h1
    · have : j = k := by omega
      subst this
      rw [List.getElem?_append_right (by omega), hl, Nat.sub_self, show 8 * j + 8 - 8 * j = 8 by omega]; rfl
theorem layA_get (p : List UInt64) (b : List UInt8) : ∀ (k j : Nat), k ≤ p.length → (layA p b k).getD j 0 = if j < k then p.getD j 0 ^^^ ld8 ((b.drop (8 * j)).take (min (8 * j + 8) b.length - 8 * j)) else p.getD j 0
  | 0, j, _ => by rw [layA, if_neg (by omega)]
  | k + 1, j, hk => by
    have ih := layA_get p b k
    rw [layA, List.getD_eq_getElem?_getD, List.getElem?_set]
    by_cases e : k = j
    · subst e
      rw [if_pos rfl, if_pos (by rw [layA_len]; omega), if_pos (by omega), ih k (by omega), if_neg (by omega)]; rfl
    · rw [if_neg e, ← List.getD_eq_getElem?_getD, ih j (by omega)]
      by_cases h : j < k
      · rw [if_pos h, if_pos (by omega)]
      · rw [if_neg h, if_neg (by omega)]
theorem getD_drop_take {α : Type} (l : List α) (d : α) (a n i : Nat) : ((l.drop a).take n).getD i d = if i < n then l.getD (a + i) d else d := by
  simp only [List.getD_eq_getElem?_getD, List.getElem?_take, List.getElem?_drop]
  split <;> rfl
/-- One block: the document's way is the program's. -/
theorem block_eq (p : List UInt64) (hp : p.length = 25) (q c : List UInt8) (i r : Nat) (hr : r ≤ 200) (hc : c.length = r) (hq : ∀ j, j < r → q.getD (i + j) 0 = c.getD j 0) : rst (rsx p q i r) = lay p c := by
  apply ext_getD 0 _ _ (by rw [rst_len, lay_len, hp])
  intro j hj
  rw [rst_len] at hj
  rw [rst, rstA_get _ 25 j hj]
  apply word_ext
  intro k hk
  have hl : ((List.drop (8 * j) (rsx p q i r)).take 8).length ≤ 8 := by rw [List.length_take]; omega
  rw [byt_ldR _ hl k hk, getD_drop_take, if_pos hk, rsx_get p q i r _ hr, rby_eq, tkA_get p 25 (8 * j + k) (by omega), show (8 * j + k) / 8 = j by omega, show (8 * j + k) % 8 = k by omega]
  rw [lay, layA_get p c _ j (by omega)]
  by_cases h1 : j < (c.length + 7) / 8
  · rw [if_pos h1, byt_xor _ _ k hk, byt_ld8 _ (by rw [List.length_take]; omega) k hk, getD_drop_take]
    by_cases h2 : 8 * j + k < r
    · rw [if_pos h2, if_pos (by omega), hq _ h2]
    · rw [if_neg h2, if_neg (by omega)]; simp
  · rw [if_neg h1, if_neg (by omega)]
theorem getD_app_l {α : Type} (a b : List α) (d : α) (i : Nat) (h : i < a.length) : (a ++ b).getD i d = a.getD i d := by simp only [List.getD_eq_getElem?_getD, List.getElem?_append_left h]
theorem getD_app_r {α : Type} (a b : List α) (d : α) (i : Nat) (h : a.length ≤ i) : (a ++ b).getD i d = b.getD (i - a.length) d := by simp only [List.getD_eq_getElem?_getD, List.getElem?_append_right h]
theorem getD_rep8 (n i : Nat) : (List.replicate n (0 : UInt8)).getD i 0 = 0 := by
  simp only [List.getD_eq_getElem?_getD, List.getElem?_replicate]; split <;> rfl
theorem getD_set8 (l : List UInt8) (i j : Nat) (x : UInt8) (h : i < l.length) : (l.set i x).getD j 0 = if i = j then x else l.getD j 0 := by
  simp only [List.getD_eq_getElem?_getD, List.getElem?_set]
  by_cases e : i = j
  · subst e; rw [if_pos rfl, if_pos h, if_pos rfl]; rfl
  · rw [if_neg e, if_neg e]
theorem rpad_get (r : Nat) (s : UInt8) (b : List UInt8) (j : Nat) : (rpad r s b).getD j 0 = (if j < b.length then b.getD j 0 else if j = b.length then s else 0) ^^^ (if j = b.length + padN (b.length + 1) r then 128 else 0) := by
  have hg : ∀ j, ((b ++ [s]) ++ List.replicate (padN (b.length + 1) r) (0 : UInt8)).getD j 0 = if j < b.length then b.getD j 0 else if j = b.length then s else 0 := by
    intro j
    by_cases h1 : j < b.length
    · rw [if_pos h1, getD_app_l _ _ _ _ (by simp; omega), getD_app_l _ _ _ _ h1]
    · rw [if_neg h1]
      by_cases h2 : j = b.length
      · subst h2; rw [if_pos rfl, getD_app_l _ _ _ _ (by simp), getD_app_r _ _ _ _ (Nat.le_refl _), Nat.sub_self]; rfl
      · rw [if_neg h2, getD_app_r _ _ _ _ (by simp; omega), getD_rep8]
  rw [rpad, getD_set8 _ _ _ _ (by rw [pre_len]; omega)]
  by_cases e : b.length + 1 + padN (b.length + 1) r - 1 = j
  · rw [if_pos e, hg, if_pos (show j = b.length + padN (b.length + 1) r by omega), e]
  · rw [if_neg e, hg, if_neg (show ¬ j = b.length + padN (b.length + 1) r by omega)]; simp
theorem padB_get (r : Nat) (l : List UInt8) (h : l.length ≤ r) (j : Nat) : (padB r l).getD j 0 = l.getD j 0 := by
  unfold padB
  rw [List.take_of_length_le h]
  rcases Nat.lt_or_ge j l.length with h1 | h1
  · rw [getD_app_l _ _ _ _ h1]
  · rw [getD_app_r _ _ _ _ h1, getD_map_oob l j 0 h1, List.drop_replicate, getD_rep8]
theorem lastB_get (r : Nat) (s : UInt8) (l : List UInt8) (h : l.length < r) (j : Nat) : (lastB r s l).getD j 0 = (l.getD j 0 ^^^ (if j = l.length then s else 0)) ^^^ (if j = r - 1 then 128 else 0) := by
  unfold lastB
  have hp := padB_len r l
  have h0 : l.getD l.length 0 = 0 := getD_map_oob l _ 0 (Nat.le_refl _)
  have hA : ∀ j, ((padB r l).set l.length ((padB r l).getD l.length 0 ^^^ s)).getD j 0 = l.getD j 0 ^^^ (if j = l.length then s else 0) := by
    intro j
    rw [getD_set8 _ _ _ _ (by omega), padB_get r l (by omega), padB_get r l (by omega)]
    by_cases e : l.length = j
    · subst e; rw [if_pos rfl, if_pos rfl]
    · rw [if_neg e, if_neg (fun h => e h.symm)]; simp
  rw [getD_set8 _ _ _ _ (by rw [List.length_set]; omega), hA, hA]
  by_cases e : r - 1 = j
  · subst e; rw [if_pos rfl, if_pos rfl]
  · rw [if_neg e, if_neg (show ¬ j = r - 1 from fun h => e h.symm)]; simp
theorem rabA_eq (r : Nat) (s : UInt8) (b : List UInt8) (hr : 1 ≤ r ∧ r ≤ 200) : ∀ m, m * r ≤ b.length → absR r s (rabA r s b m) (b.drop (m * r)) = absR r s noughts b
  | 0, _ => by rw [Nat.zero_mul]; rfl
  | m + 1, h => by
    rw [Nat.succ_mul] at h
    have hb := block_eq (rabA r s b m) (rabA_len _ _ _ _) (rpad r s b) ((b.drop (m * r)).take r) (m * r) r hr.2 (by rw [List.length_take, List.length_drop]; omega) (fun j hj => by
      rw [rpad_get, if_pos (by omega), if_neg (by omega), getD_drop_take, if_pos hj]; simp)
    have e1 : rabA r s b (m + 1) = kf (lay (rabA r s b m) ((b.drop (m * r)).take r)) := by rw [rabA, fast_eq _ (rst_len _), hb]
    have e2 : b.drop ((m + 1) * r) = (b.drop (m * r)).drop r := by rw [List.drop_drop, Nat.succ_mul]
    rw [e1, e2]
    exact (absR_step r s (rabA r s b m) (b.drop (m * r)) hr.1 (by rw [List.length_drop]; omega)).symm.trans (rabA_eq r s b hr m (by omega))
theorem rabs_eq (r : Nat) (s : UInt8) (b : List UInt8) (hr : 1 ≤ r ∧ r ≤ 200) : rabA r s b (nbk b r) = absR r s noughts b := by
  have hm := Nat.mod_lt b.length (show 0 < r by omega)
  have hd := Nat.div_add_mod b.length r
  have hcm := Nat.mul_comm r (b.length / r)
  have hnr : nbk b r = b.length / r + 1 := by
    have h1 := rpad_nb r s b hr.1
    rw [rpad_len] at h1
    have h2 : padN (b.length + 1) r < r := Nat.mod_lt _ (by omega)
    have h3 : nbk b r * r = (b.length / r + 1) * r := by
      have hz := (padN_iff (b.length + 1) r _ hr.1 (Nat.le_refl _)).2 rfl
      have hle : (b.length / r) * r < nbk b r * r := by omega
      have hge : nbk b r * r < (b.length / r + 2) * r := by rw [Nat.add_mul]; omega
      have a1 := Nat.lt_of_mul_lt_mul_right hle
      have a2 := Nat.lt_of_mul_lt_mul_right hge
      have : nbk b r = b.length / r + 1 := by omega
      rw [this]
    exact Nat.eq_of_mul_eq_mul_right (by omega) h3
  have hpn : (b.length / r) * r + r = b.length + 1 + padN (b.length + 1) r := by
    have h1 := rpad_nb r s b hr.1
    rw [rpad_len, hnr, Nat.succ_mul] at h1; omega
  rw [hnr, ← rabA_eq r s b hr (b.length / r) (by omega), absR_end r s _ _ hr.1 (by rw [List.length_drop]; omega), rabA, fast_eq _ (rst_len _)]
  have hdl : (b.drop (b.length / r * r)).length = b.length % r := by rw [List.length_drop]; omega
  rw [block_eq (rabA r s b (b.length / r)) (rabA_len _ _ _ _) (rpad r s b) (lastB r s (b.drop (b.length / r * r))) (b.length / r * r) r hr.2 (lastB_len _ _ _)]
  intro j hj
  rw [rpad_get, lastB_get r s _ (by omega), hdl]
  have hgd : (b.drop (b.length / r * r)).getD j 0 = b.getD (b.length / r * r + j) 0 := by simp [List.getD_eq_getElem?_getD, List.getElem?_drop]
  rw [hgd]
  have e1 : (b.length / r * r + j = b.length + padN (b.length + 1) r) ↔ j = r - 1 := by omega
  simp only [e1]
  by_cases h1 : b.length / r * r + j < b.length
  · rw [if_pos h1, if_neg (show ¬ j = b.length % r by omega)]; simp
  · rw [if_neg h1, getD_map_oob b _ 0 (by omega)]
    by_cases h2 : b.length / r * r + j = b.length
    · rw [if_pos h2, if_pos (show j = b.length % r by omega)]; simp
    · rw [if_neg h2, if_neg (show ¬ j = b.length % r by omega)]; simp
theorem sqz_small (p : List UInt64) (r n : Nat) (h : 1 ≤ r ∧ r ≤ 200 ∧ n ≤ r) : sqz p r n = tk p n := by
  have h1 : (roA p r 1).length = 1 * r := roA_len p r h.2.1 1
  rw [sqz, ← roA_take p r n 1 ⟨h.1, h.2.1⟩ (by omega)]
  show ([] ++ (rby (fpow p 0)).take r).take n = _
  rw [List.nil_append, List.take_take, show min n r = n by omega, rby_eq]; rfl
end Go.Rx
