/- Plain functions: the document's bits of polynomials, and that they are the program's. -/
import Derived.Test.YtaignhikdfpbbaaDoorUn
namespace Go.Rx
def nbits (n : Nat) : Nat → List Nat
  | 0 => []
  | j + 1 => nbits n j ++ [n / 2 ^ j % 2]
theorem nbits_len (n : Nat) : ∀ j, (nbits n j).length = j
  | 0 => rfl
  | j + 1 => by rw [nbits, List.length_append, nbits_len n j]; rfl
theorem getD_app_lt {α : Type} (a b : List α) (i : Nat) (d : α) (h : i < a.length) : (a ++ b).getD i d = a.getD i d := by
  simp only [List.getD_eq_getElem?_getD, List.getElem?_append_left h]
theorem getD_app_ge {α : Type} (a b : List α) (i : Nat) (d : α) (h : a.length ≤ i) : (a ++ b).getD i d = b.getD (i - a.length) d := by
  simp only [List.getD_eq_getElem?_getD, List.getElem?_append_right h]
theorem nbits_get (n : Nat) : ∀ j i, i < j → (nbits n j).getD i 0 = n / 2 ^ i % 2
  | 0, i, h => by omega
  | j + 1, i, h => by
    have hl := nbits_len n j
    rw [nbits]
    rcases Nat.lt_or_ge i j with h1 | h1
    · rw [getD_app_lt _ _ _ _ (by omega)]; exact nbits_get n j i h1
    · obtain rfl : i = j := by omega
      rw [getD_app_ge _ _ _ _ (by omega), hl, Nat.sub_self]; rfl
theorem nbits_app (o : List Nat) (n j : Nat) : (o ++ nbits n j) ++ [n / 2 ^ j % 2] = o ++ nbits n (j + 1) := by rw [nbits, List.append_assoc]
theorem half_pow (c j : Nat) : c / 2 ^ j / 2 = c / 2 ^ (j + 1) := by rw [Nat.div_div_eq_div_mul, Nat.pow_succ]
def bbA (b : List UInt8) : Nat → List Nat
  | 0 => []
  | i + 1 => bbA b i ++ nbits (b.getD i 0).toNat 8
theorem bbA_len (b : List UInt8) : ∀ i, (bbA b i).length = 8 * i
  | 0 => rfl
  | i + 1 => by rw [bbA, List.length_append, bbA_len b i, nbits_len]; omega
theorem bbA_get (b : List UInt8) : ∀ i k, k < 8 * i → (bbA b i).getD k 0 = bitN b k
  | 0, k, h => by omega
  | i + 1, k, h => by
    have hl := bbA_len b i
    rw [bbA]
    rcases Nat.lt_or_ge k (8 * i) with h1 | h1
    · rw [getD_app_lt _ _ _ _ (by omega)]; exact bbA_get b i k h1
    · rw [getD_app_ge _ _ _ _ (by omega), hl, nbits_get _ _ _ (by omega), bitN, show k / 8 = i by omega, show k - 8 * i = k % 8 by omega]
def rbits (b : List UInt8) : List Nat := bbA b b.length
theorem rbits_len (b : List UInt8) : (rbits b).length = 8 * b.length := bbA_len b _
theorem rbits_get (b : List UInt8) (k : Nat) (h : k < 8 * b.length) : (rbits b).getD k 0 = bitN b k := bbA_get b _ k h
/-- Rows of bits. -/
def Bt (l : List Nat) : Prop := ∀ k, l.getD k 0 ≤ 1
theorem Bt.app {a b : List Nat} (ha : Bt a) (hb : Bt b) : Bt (a ++ b) := fun k => by
  rcases Nat.lt_or_ge k a.length with h | h
  · rw [getD_app_lt _ _ _ _ h]; exact ha k
  · rw [getD_app_ge _ _ _ _ h]; exact hb _
theorem Bt.nil : Bt [] := fun k => by simp
theorem Bt.nbits (n : Nat) : ∀ j, Bt (nbits n j)
  | 0 => Bt.nil
  | j + 1 => by
    rw [Rx.nbits]
    refine (Bt.nbits n j).app fun k => ?_
    have h2 := Nat.mod_lt (n / 2 ^ j) (show 0 < 2 by omega)
    cases k with
    | zero => show n / 2 ^ j % 2 ≤ 1; omega
    | succ k => simp
theorem bbA_bt (b : List UInt8) : ∀ i, Bt (bbA b i)
  | 0 => Bt.nil
  | i + 1 => by rw [bbA]; exact (bbA_bt b i).app (Bt.nbits _ _)
theorem rbits_bt (b : List UInt8) : Bt (rbits b) := bbA_bt b _
/-- A number by its bits, from the highest one on. -/
def horD (l : List Nat) (o D : Nat) : Nat → Nat
  | 0 => 0
  | m + 1 => horD l o D m * 2 + l.getD (o + (D - 1 - m)) 0
theorem horD_lt (l : List Nat) (hl : Bt l) (o D : Nat) : ∀ m, horD l o D m < 2 ^ m
  | 0 => by simp [horD]
  | m + 1 => by have h1 := horD_lt l hl o D m; have h2 := hl (o + (D - 1 - m)); rw [horD, Nat.pow_succ]; omega
theorem horD_le (l : List Nat) (hl : Bt l) (o D m : Nat) (h : m ≤ 12) : horD l o D m ≤ 4095 := by
  have h1 := horD_lt l hl o D m
  have h2 : 2 ^ m ≤ 2 ^ 12 := Nat.pow_le_pow_right (by omega) h
  omega
def btL (l : List Nat) (o : Nat) : Nat → Nat
  | 0 => 0
  | j + 1 => btL l o j + l.getD (o + j) 0 * 2 ^ j
theorem hor_bt (l : List Nat) (o D : Nat) : ∀ m, m ≤ D → horD l o D m * 2 ^ (D - m) + btL l o (D - m) = btL l o D
  | 0, _ => by rw [horD, Nat.zero_mul, Nat.zero_add, Nat.sub_zero]
  | m + 1, h => by
    have ih := hor_bt l o D m (by omega)
    have e : D - m = (D - (m + 1)) + 1 := by omega
    have e2 : D - 1 - m = D - (m + 1) := by omega
    rw [← ih, e, horD, btL, e2, Nat.pow_succ, Nat.add_mul]
    have : horD l o D m * 2 * 2 ^ (D - (m + 1)) = horD l o D m * (2 ^ (D - (m + 1)) * 2) := by rw [Nat.mul_assoc, Nat.mul_comm 2]
    omega
theorem hor_eq (l : List Nat) (o D : Nat) : horD l o D D = btL l o D := by
  have := hor_bt l o D D (Nat.le_refl _); rw [Nat.sub_self, btL] at this; omega
theorem bt_bitL (l : List Nat) (hl : Bt l) (o : Nat) : ∀ n, btL l o n < 2 ^ n ∧ ∀ j, j < n → btL l o n / 2 ^ j % 2 = l.getD (o + j) 0
  | 0 => ⟨by simp [btL], fun j h => by omega⟩
  | n + 1 => by
    obtain ⟨h1, h2⟩ := bt_bitL l hl o n
    have hb := hl (o + n)
    have h3 : l.getD (o + n) 0 * 2 ^ n ≤ 1 * 2 ^ n := Nat.mul_le_mul_right _ hb
    refine ⟨by rw [btL, Nat.pow_succ]; omega, fun j hj => ?_⟩
    rw [btL]
    rcases Nat.lt_or_ge j n with h | h
    · rw [← h2 j h]
      have e : l.getD (o + n) 0 * 2 ^ n = 2 ^ j * (2 * (l.getD (o + n) 0 * 2 ^ (n - j - 1))) := by
        have : 2 ^ n = 2 ^ j * (2 * 2 ^ (n - j - 1)) := by rw [Nat.mul_comm 2, ← Nat.pow_succ, ← Nat.pow_add]; congr 1; omega
        rw [this, ← Nat.mul_assoc, Nat.mul_comm _ (2 ^ j), Nat.mul_assoc, ← Nat.mul_assoc _ 2, Nat.mul_comm _ 2, Nat.mul_assoc]
      rw [e, Nat.add_mul_div_left _ _ (Nat.two_pow_pos j), Nat.add_mul_mod_self_left]
    · obtain rfl : j = n := by omega
      rw [Nat.mul_comm, Nat.add_mul_div_left _ _ (Nat.two_pow_pos j), Nat.div_eq_of_lt h1]; omega
theorem btL_btA (b : List UInt8) (o : Nat) : ∀ n, o + n ≤ 8 * b.length → btL (rbits b) o n = btA b o n
  | 0, _ => rfl
  | n + 1, h => by rw [btL, btA, btL_btA b o n (by omega), rbits_get b _ (by omega)]
theorem bt_bit (b : List UInt8) (o : Nat) : ∀ n, ∀ j, j < n → btA b o n / 2 ^ j % 2 = bitN b (o + j)
  | 0 => fun j h => by omega
  | n + 1 => fun j hj => by
    have h1 := btA_lt b o n
    rw [btA]
    rcases Nat.lt_or_ge j n with h | h
    · rw [← bt_bit b o n j h]
      have e : bitN b (o + n) * 2 ^ n = 2 ^ j * (2 * (bitN b (o + n) * 2 ^ (n - j - 1))) := by
        have : 2 ^ n = 2 ^ j * (2 * 2 ^ (n - j - 1)) := by rw [Nat.mul_comm 2, ← Nat.pow_succ, ← Nat.pow_add]; congr 1; omega
        rw [this, ← Nat.mul_assoc, Nat.mul_comm _ (2 ^ j), Nat.mul_assoc, ← Nat.mul_assoc _ 2, Nat.mul_comm _ 2, Nat.mul_assoc]
      rw [e, Nat.add_mul_div_left _ _ (Nat.two_pow_pos j), Nat.add_mul_mod_self_left]
    · obtain rfl : j = n := by omega
      have := bitN_lt b (o + j)
      rw [Nat.mul_comm, Nat.add_mul_div_left _ _ (Nat.two_pow_pos j), Nat.div_eq_of_lt h1]; omega
/-! ### Small polynomials -/
def sumB (b : List UInt8) (o : Nat) : Nat → Nat
  | 0 => 0
  | j + 1 => sumB b o j + bitN b (o + j)
theorem sumB_le (b : List UInt8) (o : Nat) : ∀ j, sumB b o j ≤ j
  | 0 => Nat.le_refl _
  | j + 1 => by have := sumB_le b o j; have := bitN_lt b (o + j); rw [sumB]; omega
theorem pcA_sum (b : List UInt8) (o n : Nat) : ∀ j, j ≤ n → pcA (btA b o n) j = sumB b o j
  | 0, _ => rfl
  | j + 1, h => by rw [pcA, sumB, pcA_sum b o n j (by omega), shA_eq, bt_bit b o n j (by omega)]
theorem ones_sum (b : List UInt8) (o n : Nat) (hn : n ≤ 12) : onesN b o n = sumB b o n := by
  have h0 : shA (btA b o n) n = 0 := by rw [shA_eq]; exact Nat.div_eq_of_lt (btA_lt b o n)
  have := (pcA_more (btA b o n) n h0 (12 - n)).1
  rw [show n + (12 - n) = 12 by omega, pcA_sum b o n n (Nat.le_refl _)] at this
  rw [onesN, pc, this]
def noE (l : List Nat) (o eta : Nat) : Nat → Int
  | 0 => 3329
  | j + 1 => noE l o eta j + (((l.getD (o + j) 0 : Nat) : Int) - ((l.getD (o + eta + j) 0 : Nat) : Int))
theorem noE_le (l : List Nat) (hl : Bt l) (o eta : Nat) : ∀ j : Nat, 3329 - (j : Int) ≤ noE l o eta j ∧ noE l o eta j ≤ 3329 + (j : Int)
  | 0 => by rw [noE]; omega
  | j + 1 => by have h := noE_le l hl o eta j; have h1 := hl (o + j); have h2 := hl (o + eta + j); rw [noE]; omega
def rnA (l : List Nat) (eta : Nat) : Nat → List Int
  | 0 => zero256
  | i + 1 => (rnA l eta i).set i ((noE l (2 * i * eta) eta eta).tmod 3329)
theorem rnA_len (l : List Nat) (eta : Nat) : ∀ i, (rnA l eta i).length = 256
  | 0 => List.length_replicate
  | i + 1 => by rw [rnA, List.length_set]; exact rnA_len l eta i
theorem noE_sum (b : List UInt8) (o eta : Nat) (h : o + 2 * eta ≤ 8 * b.length) : ∀ j, j ≤ eta → noE (rbits b) o eta j = 3329 + ((sumB b o j : Nat) : Int) - ((sumB b (o + eta) j : Nat) : Int)
  | 0, _ => by rw [noE, sumB, sumB]; omega
  | j + 1, hj => by rw [noE, sumB, sumB, noE_sum b o eta h j (by omega), rbits_get b _ (by omega), rbits_get b _ (by omega)]; omega
theorem rnA_eq (b : List UInt8) (eta : Nat) (he : 1 ≤ eta ∧ eta ≤ 3) (hb : b.length = 64 * eta) : ∀ i, i ≤ 256 → rnA (rbits b) eta i = noA eta b i
  | 0, _ => rfl
  | i + 1, h => by
    have hm := Nat.mul_le_mul_right eta (show 2 * i + 2 ≤ 512 by omega)
    rw [Nat.add_mul] at hm
    rw [rnA, noA, rnA_eq b eta he hb i (by omega), noE_sum b _ eta (by omega) eta (Nat.le_refl _), ones_sum b _ _ (by omega), ones_sum b _ _ (by omega)]
    have h1 := sumB_le b (2 * i * eta) eta; have h2 := sumB_le b (2 * i * eta + eta) eta
    congr 1
    rw [zsub_eq, zmod_of_lt (by omega), zmod_of_lt (by omega), Int.tmod_eq_emod_of_nonneg (by omega)]
    omega
/-! ### Bytes of polynomials -/
def pkA (d : Nat) (p : List Int) : Nat → List Nat
  | 0 => []
  | i + 1 => pkA d p i ++ nbits (zmod (p.getD i 0)) d
theorem pkA_len (d : Nat) (p : List Int) : ∀ i, (pkA d p i).length = d * i
  | 0 => rfl
  | i + 1 => by rw [pkA, List.length_append, pkA_len d p i, nbits_len, Nat.mul_succ]
theorem pkA_bt (d : Nat) (p : List Int) : ∀ i, Bt (pkA d p i)
  | 0 => Bt.nil
  | i + 1 => by rw [pkA]; exact (pkA_bt d p i).app (Bt.nbits _ _)
theorem pkA_get (d : Nat) (hd : 1 ≤ d) (p : List Int) : ∀ i k, k < d * i → (pkA d p i).getD k 0 = zmod (p.getD (k / d) 0) / 2 ^ (k % d) % 2
  | 0, k, h => by omega
  | i + 1, k, h => by
    have hl := pkA_len d p i
    rw [Nat.mul_succ] at h
    rw [pkA]
    rcases Nat.lt_or_ge k (d * i) with h1 | h1
    · rw [getD_app_lt _ _ _ _ (by omega)]; exact pkA_get d hd p i k h1
    · have e1 : k / d = i := Nat.div_eq_of_lt_le (by rw [Nat.mul_comm]; exact h1) (by rw [Nat.mul_comm, Nat.mul_succ]; omega)
      have e2 : k % d = k - d * i := by have := Nat.div_add_mod k d; rw [e1] at this; omega
      rw [getD_app_ge _ _ _ _ (by omega), hl, nbits_get _ _ _ (by omega), e1, e2]
def opA (l : List Nat) : Nat → List UInt8
  | 0 => []
  | i + 1 => opA l i ++ [UInt8.ofNat (horD l (8 * i) 8 8)]
theorem opA_len (l : List Nat) : ∀ i, (opA l i).length = i
  | 0 => rfl
  | i + 1 => by rw [opA, List.length_append, opA_len l i]; rfl
theorem opA_get (l : List Nat) : ∀ i t, t < i → (opA l i).getD t 0 = UInt8.ofNat (horD l (8 * t) 8 8)
  | 0, t, h => by omega
  | i + 1, t, h => by
    have hl := opA_len l i
    rw [opA]
    rcases Nat.lt_or_ge t i with h1 | h1
    · rw [getD_app_lt _ _ _ _ (by omega)]; exact opA_get l i t h1
    · obtain rfl : t = i := by omega
      rw [getD_app_ge _ _ _ _ (by omega), hl, Nat.sub_self]; rfl
theorem opA_bit (l : List Nat) (hl : Bt l) (i k : Nat) (h : k < 8 * i) : bitN (opA l i) k = l.getD k 0 := by
  have hb := bt_bitL l hl (8 * (k / 8)) 8
  rw [bitN, opA_get l i _ (by omega), hor_eq, UInt8.toNat_ofNat_of_lt' (by simpa using hb.1), hb.2 _ (by omega), show 8 * (k / 8) + k % 8 = k by omega]
theorem bitN_test (b : List UInt8) (k : Nat) : bitN b k = ((b.getD (k / 8) 0).toNat.testBit (k % 8)).toNat := by
  rw [bitN, Nat.testBit_eq_decide_div_mod_eq]
  have := Nat.mod_lt ((b.getD (k / 8) 0).toNat / 2 ^ (k % 8)) (show 0 < 2 by omega)
  rcases Nat.mod_two_eq_zero_or_one ((b.getD (k / 8) 0).toNat / 2 ^ (k % 8)) with h | h <;> rw [h] <;> rfl
theorem bytes_ext (a b : List UInt8) (h : a.length = b.length) (hg : ∀ k, k < 8 * a.length → bitN a k = bitN b k) : a = b := by
  refine ext_getD 0 a b h fun i hi => ?_
  apply UInt8.toNat_inj.1
  apply Nat.eq_of_testBit_eq
  intro j
  rcases Nat.lt_or_ge j 8 with hj | hj
  · have := hg (8 * i + j) (by omega)
    rw [bitN_test, bitN_test, show (8 * i + j) / 8 = i by omega, show (8 * i + j) % 8 = j by omega] at this
    revert this
    cases (a.getD i 0).toNat.testBit j <;> cases (b.getD i 0).toNat.testBit j <;> simp
  · have p2 : (2 : Nat) ^ 8 ≤ 2 ^ j := Nat.pow_le_pow_right (by omega) hj
    have h1 := (a.getD i 0).toNat_lt; have h2 := (b.getD i 0).toNat_lt
    rw [Nat.testBit_lt_two_pow (by omega), Nat.testBit_lt_two_pow (by omega)]
theorem getD_set_eq {α : Type} (l : List α) (i j : Nat) (x d : α) (h : i < l.length) : (l.set i x).getD j d = if i = j then x else l.getD j d := by
  simp only [List.getD_eq_getElem?_getD, List.getElem?_set]
  by_cases e : i = j
  · rw [if_pos e, if_pos e, if_pos h]; rfl
  · rw [if_neg e, if_neg e]
theorem bit_put (o : List UInt8) (K v k : Nat) (hv : v < 2) (hK : K < 8 * o.length) (h0 : bitN o K = 0) :
    bitN (o.set (K / 8) (o.getD (K / 8) 0 ||| (UInt8.ofNat v <<< UInt8.ofNat (K % 8)))) k = if k = K then v else bitN o k := by
  have hm : (UInt8.ofNat (K % 8)).toNat % 8 = K % 8 := by rw [UInt8.toNat_ofNat_of_lt' (by show K % 8 < 256; omega)]; omega
  have hvn : (UInt8.ofNat v).toNat = v := UInt8.toNat_ofNat_of_lt' (by show v < 256; omega)
  rw [bitN_test, getD_set_eq _ _ _ _ _ (by omega)]
  by_cases e : K / 8 = k / 8
  · rw [if_pos e, UInt8.toNat_or, Nat.testBit_or, UInt8.toNat_shiftLeft, hm, hvn, Nat.testBit_mod_two_pow, Nat.testBit_shiftLeft]
    by_cases e2 : k = K
    · subst e2
      rw [if_pos rfl]
      have h0' := h0
      rw [bitN_test] at h0'
      have h1 : (o.getD (k / 8) 0).toNat.testBit (k % 8) = false := by
        revert h0'; cases (o.getD (k / 8) 0).toNat.testBit (k % 8) <;> simp
      rw [h1, Nat.sub_self]
      have : k % 8 < 8 := Nat.mod_lt _ (by omega)
      rcases (show v = 0 ∨ v = 1 by omega) with rfl | rfl <;> simp [this]
    · rw [if_neg e2, bitN_test]
      have hne : k % 8 ≠ K % 8 := by omega
      have : ((decide (k % 8 < 8)) && ((decide (k % 8 ≥ K % 8)) && v.testBit (k % 8 - K % 8))) = false := by
        by_cases h3 : k % 8 ≥ K % 8
        · have h4 : v.testBit (k % 8 - K % 8) = false := by
            apply Nat.testBit_lt_two_pow
            have : 2 ^ 1 ≤ 2 ^ (k % 8 - K % 8) := Nat.pow_le_pow_right (by omega) (by omega)
            omega
          rw [h4]; simp
        · simp [h3]
      rw [this, Bool.or_false, e]
  · rw [if_neg e, if_neg (by intro h; rw [h] at e; exact e rfl), bitN_test]
theorem paB_bit (c at' : Nat) (o : List UInt8) (h0 : ∀ k, at' ≤ k → bitN o k = 0) : ∀ j, at' + j ≤ 8 * o.length → ∀ k, bitN (paB c at' o j) k = if at' ≤ k ∧ k < at' + j then c / 2 ^ (k - at') % 2 else bitN o k
  | 0, _, k => by rw [paB, if_neg (by omega)]
  | j + 1, h, k => by
    have ih := paB_bit c at' o h0 j (by omega)
    have hz : bitN (paB c at' o j) (at' + j) = 0 := by rw [ih, if_neg (by omega)]; exact h0 _ (by omega)
    rw [paB, bit_put _ _ _ _ (Nat.mod_lt _ (by omega)) (by rw [paB_len]; omega) hz, ih]
    by_cases e : k = at' + j
    · subst e; rw [if_pos rfl, if_pos (by omega), show at' + j - at' = j by omega]
    · rw [if_neg e]
      by_cases e2 : at' ≤ k ∧ k < at' + j
      · rw [if_pos e2, if_pos (by omega)]
      · rw [if_neg e2, if_neg (by omega)]
theorem bitN_rep (n k : Nat) : bitN (List.replicate n 0) k = 0 := by
  rw [bitN]
  have : (List.replicate n (0 : UInt8)).getD (k / 8) 0 = 0 := by
    simp only [List.getD_eq_getElem?_getD, List.getElem?_replicate]; split <;> rfl
  rw [this]; simp
theorem paA_bit (d : Nat) (hd : 1 ≤ d) (p : List Int) : ∀ i, i ≤ 256 → ∀ k, bitN (paA d p i) k = if k < d * i then zmod (p.getD (k / d) 0) / 2 ^ (k % d) % 2 else 0
  | 0, _, k => by rw [paA, bitN_rep, if_neg (by omega)]
  | i + 1, h, k => by
    have ih := paA_bit d hd p i (by omega)
    have hm := Nat.mul_le_mul_left d (show i + 1 ≤ 256 by omega)
    rw [Nat.mul_succ] at hm
    rw [paA, paB_bit _ _ _ (fun k hk => by rw [ih, if_neg (by omega)]) d (by rw [paA_len]; omega), ih, Nat.mul_succ]
    by_cases e : d * i ≤ k ∧ k < d * i + d
    · have e1 : k / d = i := Nat.div_eq_of_lt_le (by rw [Nat.mul_comm]; exact e.1) (by rw [Nat.mul_comm, Nat.mul_succ]; exact e.2)
      have e2 : k % d = k - d * i := by have := Nat.div_add_mod k d; rw [e1] at this; omega
      rw [if_pos e, if_pos (by omega), e1, e2]
    · rw [if_neg e]
      by_cases e2 : k < d * i
      · rw [if_pos e2, if_pos (by omega)]
      · rw [if_neg e2, if_neg (by omega)]
theorem pack_eq (d : Nat) (hd : 1 ≤ d) (p : List Int) : opA (pkA d p 256) (32 * d) = paA d p 256 := by
  have hl := opA_len (pkA d p 256) (32 * d)
  refine bytes_ext _ _ (by rw [hl, paA_len]) fun k hk => ?_
  rw [hl] at hk
  rw [opA_bit _ (pkA_bt d p 256) _ _ hk, pkA_get d hd p _ _ (by omega), paA_bit d hd p 256 (Nat.le_refl _), if_pos (by omega)]
def ruA (l : List Nat) (d : Nat) : Nat → List Int
  | 0 => zero256
  | i + 1 => (ruA l d i).set i ((horD l (d * i) d d % 3329 : Nat) : Int)
theorem ruA_len (l : List Nat) (d : Nat) : ∀ i, (ruA l d i).length = 256
  | 0 => List.length_replicate
  | i + 1 => by rw [ruA, List.length_set]; exact ruA_len l d i
theorem ruA_eq (b : List UInt8) (d : Nat) (hb : b.length = 32 * d) : ∀ i, i ≤ 256 → ruA (rbits b) d i = unA d b i
  | 0, _ => rfl
  | i + 1, h => by
    have hm := Nat.mul_le_mul_left d (show i + 1 ≤ 256 by omega)
    rw [Nat.mul_succ] at hm
    rw [ruA, unA, ruA_eq b d hb i (by omega), hor_eq, btL_btA b _ _ (by omega), zmod_nat]
theorem prfB_app (eta : Nat) (seed : List UInt8) (n : UInt8) : sqz (absR 136 31 noughts (seed ++ [n])) 136 (64 * eta) = prfB (eta : Int) seed n := by
  have e1 : [seed, [n]].flatten = seed ++ [n] := by simp
  have e2 : (64 * (eta : Int)).toNat = 64 * eta := by omega
  rw [prfB, e1, e2]
end Go.Rx
