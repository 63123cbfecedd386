/- Plain functions: the document's words, bytes and sponge, as its functions reckon them. -/
import Derived.Test.YtaignhikdfpbbaaDoorSk
import Derived.Test.YtaignhikdfpbbaaDoorPe
namespace Go.Rx
def ldR : List UInt8 → UInt64
  | [] => 0
  | c :: r => ldR r * 256 + c.toUInt64
theorem ldR_step (b : List UInt8) (k : Nat) (h1 : 1 ≤ k) (h2 : k ≤ b.length) : ldR (b.drop k) * 256 + (b.getD (k - 1) 0).toUInt64 = ldR (b.drop (k - 1)) := by
  obtain ⟨m, rfl⟩ : ∃ m, k = m + 1 := ⟨k - 1, by omega⟩
  rw [Nat.add_sub_cancel, List.drop_eq_getElem_cons (show m < b.length by omega), ldR]
  simp [List.getD, List.getElem?_eq_getElem (show m < b.length by omega)]
def rsX (x : UInt64) : Nat → UInt64
  | 0 => x
  | k + 1 => rsX x k / 256
def rsA (x : UInt64) : Nat → List UInt8
  | 0 => []
  | k + 1 => rsA x k ++ [(rsX x k % 256).toUInt8]
theorem rsA_len (x : UInt64) : ∀ k, (rsA x k).length = k
  | 0 => rfl
  | k + 1 => by rw [rsA, List.length_append, rsA_len x k]; rfl
def rs8 (x : UInt64) : List UInt8 := rsA x 8
theorem rs8_len (x : UInt64) : (rs8 x).length = 8 := rsA_len x 8
def rbA (p : List UInt64) : Nat → List UInt8
  | 0 => []
  | k + 1 => rbA p k ++ rs8 (p.getD k 0)
theorem rbA_len (p : List UInt64) : ∀ k, (rbA p k).length = 8 * k
  | 0 => rfl
  | k + 1 => by rw [rbA, List.length_append, rbA_len p k, rs8_len]; omega
def rby (p : List UInt64) : List UInt8 := rbA p 25
theorem rby_len (p : List UInt64) : (rby p).length = 200 := rbA_len p 25
def rstA (b : List UInt8) : Nat → List UInt64
  | 0 => []
  | k + 1 => rstA b k ++ [ldR ((b.drop (8 * k)).take (8 * k + 8 - 8 * k))]
theorem rstA_len (b : List UInt8) : ∀ k, (rstA b k).length = k
  | 0 => rfl
  | k + 1 => by rw [rstA, List.length_append, rstA_len b k]; rfl
def rst (b : List UInt8) : List UInt64 := rstA b 25
theorem rst_len (b : List UInt8) : (rst b).length = 25 := rstA_len b 25
def padN (L r : Nat) : Nat := (r - L % r) % r
theorem padN_iff (L r j : Nat) (hr : 1 ≤ r) (hj : j ≤ padN L r) : (L + j) % r = 0 ↔ j = padN L r := by
  unfold padN at *
  have hm := Nat.mod_lt L (show 0 < r by omega)
  have hd := Nat.div_add_mod L r
  by_cases h0 : L % r = 0
  · rw [h0, Nat.sub_zero, Nat.mod_self] at hj
    rw [h0, Nat.sub_zero, Nat.mod_self]
    have : j = 0 := by omega
    subst this; simpa using h0
  · rw [Nat.mod_eq_of_lt (show r - L % r < r by omega)] at hj
    rw [Nat.mod_eq_of_lt (show r - L % r < r by omega)]
    rw [Nat.add_mod, Nat.mod_eq_of_lt (show j < r by omega)]
    by_cases h1 : L % r + j < r
    · rw [Nat.mod_eq_of_lt h1]; omega
    · have : L % r + j = r := by omega
      rw [this, Nat.mod_self]; omega
theorem pre_len (b : List UInt8) (s : UInt8) (j : Nat) : ((b ++ [s]) ++ List.replicate j (0 : UInt8)).length = b.length + 1 + j := by simp only [List.length_append, List.length_cons, List.length_nil, List.length_replicate]
theorem pre_step (b : List UInt8) (s : UInt8) (j : Nat) : ((b ++ [s]) ++ List.replicate j (0 : UInt8)) ++ [0] = (b ++ [s]) ++ List.replicate (j + 1) (0 : UInt8) := by rw [List.append_assoc, List.replicate_succ']
def rpad (r : Nat) (s : UInt8) (b : List UInt8) : List UInt8 :=
  ((b ++ [s]) ++ List.replicate (padN (b.length + 1) r) (0 : UInt8)).set (b.length + 1 + padN (b.length + 1) r - 1) (((b ++ [s]) ++ List.replicate (padN (b.length + 1) r) (0 : UInt8)).getD (b.length + 1 + padN (b.length + 1) r - 1) 0 ^^^ 128)
theorem rpad_len (r : Nat) (s : UInt8) (b : List UInt8) : (rpad r s b).length = b.length + 1 + padN (b.length + 1) r := by rw [rpad, List.length_set, pre_len]
def nbk (b : List UInt8) (r : Nat) : Nat := (b.length + 1 + padN (b.length + 1) r) / r
theorem rpad_nb (r : Nat) (s : UInt8) (b : List UInt8) (hr : 1 ≤ r) : (rpad r s b).length = nbk b r * r := by
  rw [rpad_len, nbk]
  have := (padN_iff (b.length + 1) r _ hr (Nat.le_refl _)).2 rfl
  exact (Nat.div_mul_cancel (Nat.dvd_of_mod_eq_zero this)).symm
def rsx (p : List UInt64) (q : List UInt8) (i : Nat) : Nat → List UInt8
  | 0 => rby p
  | k + 1 => (rsx p q i k).set k ((rsx p q i k).getD k 0 ^^^ q.getD (i + k) 0)
theorem rsx_len (p : List UInt64) (q : List UInt8) (i : Nat) : ∀ k, (rsx p q i k).length = 200
  | 0 => rby_len p
  | k + 1 => by rw [rsx, List.length_set]; exact rsx_len p q i k
def rabA (r : Nat) (s : UInt8) (b : List UInt8) : Nat → List UInt64
  | 0 => noughts
  | m + 1 => fast (rst (rsx (rabA r s b m) (rpad r s b) (m * r) r))
theorem rabA_len (r : Nat) (s : UInt8) (b : List UInt8) : ∀ m, (rabA r s b m).length = 25
  | 0 => List.length_replicate
  | m + 1 => by rw [rabA, fast_len, rst_len]
def fpow (p : List UInt64) : Nat → List UInt64
  | 0 => p
  | k + 1 => fast (fpow p k)
theorem fpow_len (p : List UInt64) (h : p.length = 25) : ∀ k, (fpow p k).length = 25
  | 0 => h
  | k + 1 => by rw [fpow, fast_len, fpow_len p h k]
def roA (p : List UInt64) (r : Nat) : Nat → List UInt8
  | 0 => []
  | k + 1 => roA p r k ++ (rby (fpow p k)).take r
theorem roA_len (p : List UInt64) (r : Nat) (h : r ≤ 200) : ∀ k, (roA p r k).length = k * r
  | 0 => by simp [roA]
  | k + 1 => by rw [roA, List.length_append, roA_len p r h k, List.length_take, rby_len, Nat.succ_mul]; omega
theorem roA_pre (p : List UInt64) (r : Nat) (k : Nat) : ∀ m, ∃ t, roA p r (k + m) = roA p r k ++ t
  | 0 => ⟨[], by simp⟩
  | m + 1 => by
    obtain ⟨t, ht⟩ := roA_pre p r k m
    exact ⟨t ++ (rby (fpow p (k + m))).take r, by rw [← Nat.add_assoc, roA, ht, List.append_assoc]⟩
theorem roA_take (p : List UInt64) (r n k : Nat) (hr : 1 ≤ r ∧ r ≤ 200) (h : n ≤ (roA p r k).length) : (roA p r k).take n = (roA p r n).take n := by
  have h1 := roA_len p r hr.2 k
  have h2 := roA_len p r hr.2 n
  have h3 : n ≤ n * r := Nat.le_mul_of_pos_right n (by omega)
  rcases Nat.le_total k n with hk | hk
  · obtain ⟨m, rfl⟩ := Nat.exists_eq_add_of_le hk
    obtain ⟨t, ht⟩ := roA_pre p r k m
    rw [ht, List.take_append_of_le_length h]
  · obtain ⟨m, rfl⟩ := Nat.exists_eq_add_of_le hk
    obtain ⟨t, ht⟩ := roA_pre p r n m
    rw [ht, List.take_append_of_le_length (by omega)]
def sqz (p : List UInt64) (r n : Nat) : List UInt8 := (roA p r n).take n
theorem sqz_len (p : List UInt64) (r n : Nat) (hr : 1 ≤ r ∧ r ≤ 200) : (sqz p r n).length = n := by
  rw [sqz, List.length_take, roA_len p r hr.2 n]
  have : n ≤ n * r := Nat.le_mul_of_pos_right n (by omega)
  omega

/-! ### The document's answers are the program's -/
def byt (x : UInt64) (k : Nat) : UInt8 := (x >>> UInt64.ofNat (8 * k)).toUInt8
theorem stA_get (x : UInt64) : ∀ (k i : Nat), k ≤ 8 → i < k → (stA x k).getD i 0 = byt x i
  | 0, i, _, h => by omega
  | k + 1, i, hk, h => by
    rw [stA]
    simp only [List.getD_eq_getElem?_getD, List.getElem?_set]
    by_cases e : k = i
    · subst e; rw [if_pos rfl, if_pos (by rw [stA_len]; omega)]; rfl
    · rw [if_neg e]; have := stA_get x k i (by omega) (by omega); simpa only [List.getD_eq_getElem?_getD] using this
theorem st8_get (x : UInt64) (i : Nat) (h : i < 8) : (st8 x).getD i 0 = byt x i := stA_get x 8 i (Nat.le_refl _) h
theorem rsX_eq (x : UInt64) : ∀ k, k ≤ 8 → (rsX x k).toNat = x.toNat / 256 ^ k
  | 0, _ => by simp [rsX]
  | k + 1, h => by
    rw [rsX, UInt64.toNat_div, rsX_eq x k (by omega)]
    show x.toNat / 256 ^ k / 256 = _
    rw [Nat.div_div_eq_div_mul, Nat.pow_succ]
theorem byt_toNat (x : UInt64) (k : Nat) (h : k < 8) : (byt x k).toNat = x.toNat / 256 ^ k % 256 := by
  unfold byt
  rw [UInt64.toNat_toUInt8, UInt64.toNat_shiftRight]
  have e1 : (UInt64.ofNat (8 * k)).toNat % 64 = 8 * k := by rw [UInt64.toNat_ofNat']; omega
  rw [e1, Nat.shiftRight_eq_div_pow, Nat.pow_mul]
theorem rsA_get (x : UInt64) : ∀ (k i : Nat), k ≤ 8 → i < k → (rsA x k).getD i 0 = byt x i
  | 0, i, _, h => by omega
  | k + 1, i, hk, h => by
    rw [rsA]
    have hl := rsA_len x k
    rcases Nat.lt_or_ge i k with h1 | h1
    · rw [List.getD_eq_getElem?_getD, List.getElem?_append_left (by omega), ← List.getD_eq_getElem?_getD]; exact rsA_get x k i (by omega) h1
    · have : i = k := by omega
      subst this
      rw [List.getD_eq_getElem?_getD, List.getElem?_append_right (by omega), hl, Nat.sub_self]
      apply UInt8.toNat_inj.1
      rw [byt_toNat x i (by omega)]
      show (rsX x i % 256).toUInt8.toNat = _
      rw [UInt64.toNat_toUInt8, UInt64.toNat_mod, rsX_eq x i (by omega)]
      show x.toNat / 256 ^ i % 256 % 256 = _
      omega
theorem rs8_eq (x : UInt64) : rs8 x = st8 x := ext_getD 0 _ _ (by rw [rs8_len, st8_len]) fun i hi => by
  rw [rs8_len] at hi
  rw [st8_get x i hi]; exact rsA_get x 8 i (Nat.le_refl _) hi
theorem rbA_eq (p : List UInt64) : ∀ k, rbA p k = tkA p k
  | 0 => rfl
  | k + 1 => by rw [rbA, tkA, rbA_eq p k, rs8_eq]
end Go.Rx
